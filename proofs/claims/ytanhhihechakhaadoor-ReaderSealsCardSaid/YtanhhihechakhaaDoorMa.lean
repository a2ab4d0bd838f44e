/- The engine, the plain laws and the walks of this seat, part 1: what the functions answer. Conditions: as each says; printed by programs of this session. -/
import Derived.Below
import Derived.Deep.Quiet
import Derived.Deep.LoopGhost
import Derived.Laws.AppendOwn
import Derived.Laws.OwnMore
import Derived.Laws.MakeOwn
import Derived.Tactics2
import Derived.WalkKit
import Derived.KernelRfl
import Derived.OrdersHeld
import Derived.Deep.RegionHeld3
import Derived.StillTail
import Derived.Laws.Strings
import Derived.ScopeJumps
import Derived.Maps.AppendAt
import Derived.ProofKit
import Derived.OpenShut
import Derived.ShutString
import Derived.Carry
import Derived.Laws.Bits64b
import Derived.Laws.Small
import Derived.Laws.IdiomStrings
import Derived.Laws.BytesString
import Derived.Defers
import Derived.Laws.LoneSync
import Derived.LoopN
import Derived.Lib.SliceRun
import Derived.Test.YtanhhihechakhaaDoorProg
import Derived.Maps.OwnSet
import Derived.Recover
import Derived.Laws.Externs
import Derived.Lib.Bytealg
import Derived.Lib.ItoaNum
import Derived.Lib.Join
set_option linter.unusedVariables false
set_option linter.unusedSimpArgs false
namespace Go.Proofs.YtanhhihechakhaaDoor.E
open Go.RowKit
/-! ### the table of slots -/
abbrev Tab := List (Nat × Value)
def Tab.get : Tab → Nat → Option Value
 | [], _ => none
 | (k, v) :: t, i => cond (Nat.beq i k) (some v) (Tab.get t i)
def Tab.ev (f : Tab) : Operand → Option Value
 | .tmp t => f.get t
 | .const v => some v
 | .global g => some (.pointer (some ⟨g, 0, none⟩))
 | .func n => some (.func (.func n) #[] #[])
def Tab.evs (f : Tab) : List Operand → Option (List Value)
 | [] => some []
 | x :: xs => match f.ev x with
  | some v => (match Tab.evs f xs with | some vs => some (v :: vs) | none => none)
  | none => none
structure Holds (n : Nat) (D : List Deferred) (f : Tab) (a : Act) : Prop where
 size : a.tmps.size = n
 defers : a.defers = D
 get : ∀ i v, f.get i = some v → a.tmps[i]? = some v
theorem Holds.ev {n : Nat} {D : List Deferred} {f : Tab} {a : Act} (h : Holds n D f a) {x : Operand} {v : Value} (hx : f.ev x = some v) : a.eval x = v := by
 cases x with
 | tmp t =>
  have := h.get t v hx
  simp [Act.eval, this]
 | const u => simpa [Tab.ev, Act.eval] using hx
 | global g => simpa [Tab.ev, Act.eval] using hx
 | func g => simpa [Tab.ev, Act.eval] using hx
theorem Holds.evs {n : Nat} {D : List Deferred} {f : Tab} {a : Act} (h : Holds n D f a) : ∀ {xs : List Operand} {vs : List Value}, f.evs xs = some vs → xs.map a.eval = vs
 | [], vs, hx => by simpa [Tab.evs] using hx
 | x :: xs, vs, hx => by
  unfold Tab.evs at hx
  split at hx
  · rename_i v hv
    split at hx
    · rename_i ws hws
      simp only [Option.some.injEq] at hx
      subst hx
      simp [h.ev hv, h.evs hws]
    · cases hx
  · cases hx
theorem Holds.put {n : Nat} {D : List Deferred} {f : Tab} {a : Act} (h : Holds n D f a) (d : Nat) (v : Value) (hd : Nat.blt d n = true) : Holds n D ((d, v) :: f) (a.put (some d) v) := by
 have hd' : d < a.tmps.size := by rw [h.size]; exact Nat.le_of_ble_eq_true hd
 refine ⟨by simp [Act.put, h.size], by simp [Act.put, h.defers], fun i u hi => ?_⟩
 simp only [Act.put, Array.getElem?_setIfInBounds]
 unfold Tab.get at hi
 by_cases e : i = d
 · subst e
   have : Nat.beq i i = true := Nat.beq_refl i
   rw [this] at hi
   simp only [cond_true, Option.some.injEq] at hi
   subst hi
   simp [hd']
 · have : Nat.beq i d = false := by
    cases hb : Nat.beq i d with
    | true => exact absurd (Nat.eq_of_beq_eq_true hb) e
    | false => rfl
   rw [this] at hi
   simp only [cond_false] at hi
   rw [if_neg (fun x => e x.symm)]
   exact h.get i u hi
def Tab.Le : Tab → Tab → Prop
 | [], _ => True
 | (k, v) :: t, f => f.get k = some v ∧ Tab.Le t f
theorem Tab.Le.get : ∀ {f' f : Tab}, Tab.Le f' f → ∀ i v, f'.get i = some v → f.get i = some v
 | [], _, _, _, _, hi => by simp [Tab.get] at hi
 | (k, u) :: t, f, h, i, v, hi => by
  unfold Tab.get at hi
  cases hb : Nat.beq i k with
  | true =>
   rw [hb] at hi
   simp only [cond_true, Option.some.injEq] at hi
   subst hi
   have := Nat.eq_of_beq_eq_true hb
   subst this
   exact h.1
  | false =>
   rw [hb] at hi
   exact h.2.get i v hi
theorem Holds.weak {n : Nat} {D : List Deferred} {f f' : Tab} {a : Act} (h : Holds n D f a) (hl : Tab.Le f' f) : Holds n D f' a :=
 ⟨h.size, h.defers, fun i v hi => h.get i v (hl.get i v hi)⟩
/-! ### the memory -/
abbrev Hp := Nat → Option Obj
def Hp.cell (h : Hp) (a : Addr) : Option Value :=
 match h a.block with
 | some (.cells c _ _) => if a.spot.isSome then none else c[a.off]?
 | _ => none
def Hp.Sub (h : Hp) (w : World) : Prop := ∀ k o, h k = some o → w.heap[k]? = some o
theorem Hp.Sub.cell {h : Hp} {w : World} (hs : h.Sub w) {a : Addr} {v : Value} (hc : h.cell a = some v) : w.cell? a = some v := by
 unfold Hp.cell at hc
 unfold World.cell?
 split at hc
 · rename_i c e fr hh
   rw [hs _ _ hh]
   exact hc
 · cases hc
def hpOf (w : World) : Hp := fun k => w.heap[k]?
theorem hpOf_sub (w : World) : (hpOf w).Sub w := fun _ _ h => h
def Hp.Le (h h' : Hp) : Prop := ∀ k o, h k = some o → h' k = some o
theorem Hp.Le.refl (h : Hp) : h.Le h := fun _ _ x => x
theorem Hp.Le.trans {a b c : Hp} (h : a.Le b) (k : b.Le c) : a.Le c := fun i o x => k i o (h i o x)
theorem Hp.Le.cell {h h' : Hp} (hl : h.Le h') {a : Addr} {v : Value} (hc : h.cell a = some v) : h'.cell a = some v := by
 unfold Hp.cell at hc ⊢
 split at hc
 · rename_i c e fr hh
   rw [hl _ _ hh]
   exact hc
 · cases hc
inductive Res where
 | blk (g : Nat) (o : Obj)
 | row (v : Value) (e : TypeId) (size n : Nat) (xs : List Value)
def Res.key : Res → Option Nat
 | .blk g _ => some g
 | .row v _ _ _ _ => v.ownBlock
def Res.Ok (w : World) : Res → Prop
 | .blk g o => w.heap[g]? = some o
 | .row v e size n xs => w.ownsRow 0 e size v n xs
structure Frm (w0 : World) (M : List Nat) (w : World) : Prop where
 os : w.os = w0.os
 tape : w.tape = w0.tape
 output : w.output = w0.output
 size : w0.heap.size ≤ w.heap.size
 block : ∀ k, k < w0.heap.size → k ∉ M → w.heap[k]? = w0.heap[k]?
theorem Frm.refl (w : World) (M : List Nat) : Frm w M w := ⟨rfl, rfl, rfl, Nat.le_refl _, fun _ _ _ => rfl⟩
theorem Frm.below {w w' : World} (h : Frm w [] w') : Below w.heap.size w w' := ⟨h.os, h.tape, h.output, h.size, fun k hk => h.block k hk (by simp)⟩
theorem Frm.trans {a b c : World} {M : List Nat} (h : Frm a M b) (k : Frm b [] c) : Frm a M c :=
 ⟨k.os.trans h.os, k.tape.trans h.tape, k.output.trans h.output, Nat.le_trans h.size k.size,
  fun i hi hm => (k.block i (Nat.lt_of_lt_of_le hi h.size) (by simp)).trans (h.block i hi hm)⟩
theorem Frm.transM {a b c : World} {M M' : List Nat} (h : Frm a M b) (k : Frm b M' c) (hM : ∀ x, x ∈ M' → a.heap.size ≤ x ∨ x ∈ M) : Frm a M c :=
 ⟨k.os.trans h.os, k.tape.trans h.tape, k.output.trans h.output, Nat.le_trans h.size k.size,
  fun i hi hm => (k.block i (Nat.lt_of_lt_of_le hi h.size) (fun hx => by rcases hM i hx with h1 | h1 <;> first | omega | exact hm h1)).trans (h.block i hi hm)⟩
structure St (w0 : World) (M : List Nat) (h0 h : Hp) (H : List Res) (w : World) : Prop where
 frm : Frm w0 M w
 sub : h.Sub w
 le : h0.Le h
 old : ∀ k, k < w0.heap.size → h k = h0 k
 ok : ∀ r ∈ H, r.Ok w
 own : ∀ r ∈ H, ∀ k, r.key = some k → h k = none ∧ (w0.heap.size ≤ k ∨ k ∈ M)
 dis : H.Pairwise (fun r s => ∀ k, r.key = some k → s.key ≠ some k)
theorem St.start {w : World} {h : Hp} (hs : h.Sub w) (M : List Nat) : St w M h h [] w :=
 ⟨Frm.refl w M, hs, Hp.Le.refl h, fun _ _ => rfl, fun _ hr => (List.not_mem_nil hr).elim, fun _ hr => (List.not_mem_nil hr).elim, List.Pairwise.nil⟩
theorem St.start1 {w : World} {h : Hp} (hs : h.Sub w) {g : Nat} {o : Obj} (hg : w.heap[g]? = some o) (hn : h g = none) : St w [g] h h [.blk g o] w :=
 ⟨Frm.refl w _, hs, Hp.Le.refl h, fun _ _ => rfl,
  fun r hr => by simp only [List.mem_singleton] at hr; subst hr; exact hg,
  fun r hr k hk => by
   simp only [List.mem_singleton] at hr
   subst hr
   simp only [Res.key, Option.some.injEq] at hk
   subst hk
   exact ⟨hn, .inr (by simp)⟩,
  by simp⟩
theorem Res.Ok.lt {w : World} {r : Res} (h : r.Ok w) {k : Nat} (hk : r.key = some k) : k < w.heap.size := by
 cases r with
 | blk g o =>
  simp only [Res.key, Option.some.injEq] at hk
  subst hk
  exact (Array.getElem?_eq_some_iff.1 h).1
 | row v e size n xs => exact (World.ownsRow.lt h k hk).2
theorem Res.Ok.keep {w w' : World} {r : Res} (h : r.Ok w) (hb : ∀ k, r.key = some k → w'.heap[k]? = w.heap[k]?) : r.Ok w' := by
 cases r with
 | blk g o => exact (hb g rfl).trans h
 | row v e size n xs =>
  refine ⟨h.1, ?_⟩
  rcases h.2 with h1 | ⟨g, cap, cur, rfl, h2, h3, h4⟩
  · exact .inl h1
  · refine .inr ⟨g, cap, cur, rfl, h2, (hb g rfl).trans h3, h4⟩
theorem St.grow {w0 : World} {M : List Nat} {h0 h : Hp} {H : List Res} {w w' : World} (s : St w0 M h0 h H w) (hf : Frm w [] w') : St w0 M h0 h H w' where
 frm := s.frm.trans hf
 sub := fun k o hk => (hf.block k (Array.getElem?_eq_some_iff.1 (s.sub k o hk)).1 (by simp)).trans (s.sub k o hk)
 le := s.le
 old := s.old
 ok := fun r hr => Res.Ok.keep (s.ok r hr) fun k hk => hf.block k (Res.Ok.lt (s.ok r hr) hk) (by simp)
 own := s.own
 dis := s.dis
structure Grow (h : Hp) (w : World) (h' : Hp) (w' : World) : Prop where
 frm : Frm w [] w'
 sub : h'.Sub w'
 le : h.Le h'
 old : ∀ k, k < w.heap.size → h' k = h k
theorem St.grow' {w0 : World} {M : List Nat} {h0 h h' : Hp} {H : List Res} {w w' : World} (s : St w0 M h0 h H w) (g : Grow h w h' w') : St w0 M h0 h' H w' where
 frm := s.frm.trans g.frm
 sub := g.sub
 le := s.le.trans g.le
 old := fun k hk => (g.old k (Nat.lt_of_lt_of_le hk s.frm.size)).trans (s.old k hk)
 ok := fun r hr => Res.Ok.keep (s.ok r hr) fun k hk => g.frm.block k (Res.Ok.lt (s.ok r hr) hk) (by simp)
 own := fun r hr k hk => ⟨(g.old k (Res.Ok.lt (s.ok r hr) hk)).trans (s.own r hr k hk).1, (s.own r hr k hk).2⟩
 dis := s.dis
theorem St.toGrow {w0 : World} {h0 h : Hp} {H : List Res} {w : World} (s : St w0 [] h0 h H w) : Grow h0 w0 h w := ⟨s.frm, s.sub, s.le, s.old⟩
theorem St.alloc {w0 : World} {M : List Nat} {h0 h : Hp} {H : List Res} {w : World} (s : St w0 M h0 h H w) (o : Obj) : St w0 M h0 h (.blk w.heap.size o :: H) (w.alloc o) := by
 have hf : Frm w [] (w.alloc o) := ⟨rfl, rfl, rfl, by simp, fun k hk _ => Below.heap_alloc w o k hk⟩
 have s' := s.grow hf
 refine { frm := s'.frm, sub := s'.sub, le := s'.le, old := s'.old, ok := ?_, own := ?_, dis := ?_ }
 · intro r hr
   rcases List.mem_cons.1 hr with rfl | hr
   · exact heap_alloc_new w o
   · exact s'.ok r hr
 · intro r hr k hk
   rcases List.mem_cons.1 hr with rfl | hr
   · simp only [Res.key, Option.some.injEq] at hk
     subst hk
     refine ⟨?_, .inl s.frm.size⟩
     cases hh : h w.heap.size with
     | none => rfl
     | some o' =>
      have := (Array.getElem?_eq_some_iff.1 (s.sub _ _ hh)).1
      omega
   · exact s'.own r hr k hk
 · refine List.Pairwise.cons (fun r hr k hk hk' => ?_) s'.dis
   simp only [Res.key, Option.some.injEq] at hk
   subst hk
   have := Res.Ok.lt (s.ok r hr) hk'
   omega
theorem St.freeze {w0 : World} {M : List Nat} {h0 h : Hp} {g : Nat} {o : Obj} {H : List Res} {w : World} (s : St w0 M h0 h (.blk g o :: H) w) (hM : g ∉ M) :
    St w0 M h0 (fun k => if k = g then some o else h k) H w ∧ h.Le (fun k => if k = g then some o else h k) := by
 have hg := s.own _ (List.mem_cons_self) g rfl
 have hle : h.Le (fun k => if k = g then some o else h k) := fun k o' hk => by
  by_cases e : k = g
  · subst e; rw [hg.1] at hk; cases hk
  · simpa [e] using hk
 refine ⟨{ frm := s.frm, sub := ?_, le := s.le.trans hle, old := ?_, ok := fun r hr => s.ok r (List.mem_cons_of_mem _ hr), own := ?_, dis := (List.pairwise_cons.1 s.dis).2 }, hle⟩
 · intro k o' hk
   by_cases e : k = g
   · subst e
     simp only [if_true, Option.some.injEq] at hk
     subst hk
     exact s.ok _ (List.mem_cons_self)
   · exact s.sub k o' (by simpa [e] using hk)
 · intro k hk
   have : k ≠ g := by
    rintro rfl
    rcases hg.2 with h1 | h1
    · omega
    · exact hM h1
   simpa [this] using s.old k hk
 · intro r hr k hk
   have h1 := s.own r (List.mem_cons_of_mem _ hr) k hk
   have h2 := (List.pairwise_cons.1 s.dis).1 r hr g rfl
   have : k ≠ g := by rintro rfl; exact h2 hk
   exact ⟨by simpa [this] using h1.1, h1.2⟩
theorem St.perm {w0 : World} {M : List Nat} {h0 h : Hp} {H H' : List Res} {w : World} (s : St w0 M h0 h H w) (hp : H'.Sublist H) : St w0 M h0 h H' w :=
 { s with ok := fun r hr => s.ok r (hp.subset hr), own := fun r hr => s.own r (hp.subset hr), dis := s.dis.sublist hp }
theorem St.swap {w0 : World} {M : List Nat} {h0 h : Hp} {H H' : List Res} {w : World} (s : St w0 M h0 h H w) (hp : H.Perm H') : St w0 M h0 h H' w :=
 { s with ok := fun r hr => s.ok r (hp.mem_iff.2 hr), own := fun r hr => s.own r (hp.mem_iff.2 hr), dis := hp.pairwise s.dis (fun hxy k hk hk' => hxy k hk' hk) }
theorem St.write {w0 : World} {M : List Nat} {h0 h : Hp} {g : Nat} {o o' : Obj} {H : List Res} {w w' : World} (s : St w0 M h0 h (.blk g o :: H) w) (hf : Frm w [g] w') (hg : w'.heap[g]? = some o') :
    St w0 M h0 h (.blk g o' :: H) w' := by
 have hown := s.own _ (List.mem_cons_self) g rfl
 have hlt := (Array.getElem?_eq_some_iff.1 (show w.heap[g]? = some o from s.ok _ (List.mem_cons_self))).1
 refine { frm := s.frm.transM hf (fun x hx => by simp only [List.mem_singleton] at hx; subst hx; exact hown.2), sub := ?_, le := s.le, old := s.old, ok := ?_, own := ?_, dis := ?_ }
 · intro k o1 hk
   have : k ≠ g := by rintro rfl; rw [hown.1] at hk; cases hk
   exact (hf.block k (Array.getElem?_eq_some_iff.1 (s.sub k o1 hk)).1 (by simpa using this)).trans (s.sub k o1 hk)
 · intro r hr
   rcases List.mem_cons.1 hr with rfl | hr
   · exact hg
   · have h1 := s.ok r (List.mem_cons_of_mem _ hr)
     refine Res.Ok.keep h1 fun k hk => hf.block k (Res.Ok.lt h1 hk) ?_
     have h2 := (List.pairwise_cons.1 s.dis).1 r hr g rfl
     simp only [List.mem_singleton]
     rintro rfl
     exact h2 hk
 · intro r hr k hk
   rcases List.mem_cons.1 hr with rfl | hr
   · exact s.own (.blk g o) (List.mem_cons_self) k hk
   · exact s.own r (List.mem_cons_of_mem _ hr) k hk
 · refine List.Pairwise.cons (fun r hr k hk => ?_) (List.pairwise_cons.1 s.dis).2
   exact (List.pairwise_cons.1 s.dis).1 r hr k hk
theorem St.rowed {w0 : World} {M : List Nat} {h0 h : Hp} {v v' : Value} {e size n n' : Nat} {xs xs' : List Value} {H : List Res} {w w' : World} (s : St w0 M h0 h (.row v e size n xs :: H) w)
    (hg : w.grownBy w' v.ownBlock) (ho : w'.ownsRow 0 e size v' n' xs') (hat : v'.ownBlock = v.ownBlock ∨ (∃ b, v'.ownBlock = some b ∧ w.heap.size ≤ b) ∨ v'.ownBlock = none) :
    St w0 M h0 h (.row v' e size n' xs' :: H) w' := by
 have hown := s.own _ (List.mem_cons_self)
 have hok : w.ownsRow 0 e size v n xs := s.ok _ (List.mem_cons_self)
 have hfr : Frm w (v.ownBlock.toList) w' := ⟨hg.os, hg.tape, hg.output, hg.size, fun k hk hm => hg.block k hk (by rintro he; rw [← he] at hm; simp at hm)⟩
 refine { frm := s.frm.transM hfr (fun x hx => ?_), sub := ?_, le := s.le, old := s.old, ok := ?_, own := ?_, dis := ?_ }
 · have : v.ownBlock = some x := by simpa using hx
   exact (hown x this).2
 · intro k o1 hk
   refine (hfr.block k (Array.getElem?_eq_some_iff.1 (s.sub k o1 hk)).1 ?_).trans (s.sub k o1 hk)
   intro hm
   have : v.ownBlock = some k := by simpa using hm
   rw [(hown k this).1] at hk
   cases hk
 · intro r hr
   rcases List.mem_cons.1 hr with rfl | hr
   · exact ho
   · have h1 := s.ok r (List.mem_cons_of_mem _ hr)
     refine Res.Ok.keep h1 fun k hk => hfr.block k (Res.Ok.lt h1 hk) ?_
     intro hm
     have h2 : v.ownBlock = some k := by simpa using hm
     exact (List.pairwise_cons.1 s.dis).1 r hr k h2 hk
 · intro r hr k hk
   rcases List.mem_cons.1 hr with rfl | hr
   · have hk1 : v'.ownBlock = some k := hk
     rcases hat with h1 | ⟨b, hb, hle⟩ | h1
     · exact hown k (show v.ownBlock = some k from h1 ▸ hk1)
     · have hk' : v'.ownBlock = some k := hk
       rw [hb] at hk'
       injection hk' with hk'
       subst hk'
       refine ⟨?_, .inl (Nat.le_trans s.frm.size hle)⟩
       cases hh : h b with
       | none => rfl
       | some o' =>
        have := (Array.getElem?_eq_some_iff.1 (s.sub _ _ hh)).1
        omega
     · have hk' : v'.ownBlock = some k := hk
       rw [h1] at hk'
       cases hk'
   · exact s.own r (List.mem_cons_of_mem _ hr) k hk
 · refine List.Pairwise.cons (fun r hr k hk hk' => ?_) (List.pairwise_cons.1 s.dis).2
   have hk1 : v'.ownBlock = some k := hk
   rcases hat with h1 | ⟨b, hb, hle⟩ | h1
   · exact (List.pairwise_cons.1 s.dis).1 r hr k (show v.ownBlock = some k from h1 ▸ hk1) hk'
   · rw [hb] at hk1
     injection hk1 with hk1
     subst hk1
     have := Res.Ok.lt (s.ok r (List.mem_cons_of_mem _ hr)) hk'
     omega
   · rw [h1] at hk1
     cases hk1
theorem St.nilRow {w0 : World} {M : List Nat} {h0 h : Hp} {H : List Res} {w : World} (s : St w0 M h0 h H w) (e size : Nat) : St w0 M h0 h (.row (.slice none 0 0) e size 0 [] :: H) w :=
 { s with
  ok := fun r hr => by
   rcases List.mem_cons.1 hr with rfl | hr
   · exact World.ownsRow_nil w 0 e size
   · exact s.ok r hr
  own := fun r hr k hk => by
   rcases List.mem_cons.1 hr with rfl | hr
   · simp [Res.key, Value.ownBlock] at hk
   · exact s.own r hr k hk
  dis := List.Pairwise.cons (fun r hr k hk => by simp [Res.key, Value.ownBlock] at hk) s.dis }
end Go.Proofs.YtanhhihechakhaaDoor.E
set_option linter.unusedVariables false
set_option linter.unusedSimpArgs false
namespace Go.Proofs.YtanhhihechakhaaDoor.E
open Go.RowKit
def gok (ops : Array Oper) (f : Tab) : Option (Nat × Bool) → Option Bool
 | none => some true
 | some (j, want) =>
  match (ops[j]?).bind (·.dst) with
  | some d => (match f.get d with
   | some (.bool b) => some (b == want)
   | some (.tuple _) => some false
   | _ => none)
  | none => none
theorem gok_wanted {ops : Array Oper} {n : Nat} {D : List Deferred} {f : Tab} {a : Act} (ha : Holds n D f a) {o : Oper} {b : Bool} (h : gok ops f o.guard = some b) :
    Region.wanted o (yielded ops a.tmps) = b := by
 unfold Region.wanted
 unfold gok at h
 split at h
 · rename_i hg
   simp only [Option.some.injEq] at h
   rw [hg, ← h]
 · rename_i j want hg
   rw [hg]
   simp only []
   split at h
   · rename_i d hd
     split at h
     · rename_i b' hb
       simp only [Option.some.injEq] at h
       have h1 := ha.get d _ hb
       simp only [yielded, hd, Option.bind_some, h1]
       rw [← h]
       cases b' <;> cases want <;> rfl
     · rename_i vs hb
       simp only [Option.some.injEq] at h
       have h1 := ha.get d _ hb
       simp only [yielded, hd, Option.bind_some, h1]
       rw [← h]
       rfl
     · cases h
   · cases h
def lst (n : Nat) : Nat → Array Bool
 | 0 => Array.replicate n false
 | k + 1 => (lst n k).setIfInBounds k true
def okAt (ops : Array Oper) (k : Nat) : Bool :=
 (Region.free .any ops (lst ops.size k) k && (Region.ready .any ops (lst ops.size k)).contains k) || (Region.ready .any ops (lst ops.size k) == [k])
def heldB (ops : Array Oper) : Bool := Region.noSelect ops && (List.range ops.size).all (okAt ops)
structure HeldAt (ops : Array Oper) (rest : List Oper) : Prop where
 all : heldB ops = true
 len : rest.length ≤ ops.size
 suf : rest = ops.toList.drop (ops.size - rest.length)
inductive Md where
 | txt
 | qui
 | held (E : List Res)
 | still (tl : List Oper)
 | one
def Md.ext : Md → List Res → List Res
 | .held E, H => E ++ H
 | _, H => H
def Md.plain : Md → Bool
 | .txt => true
 | .qui => true
 | _ => false
section
variable {m : Md} {P : Program} {ops : Array Oper} {Q : Exit → Act → World → Prop} {n : Nat} {D : List Deferred} {w0 : World} {M : List Nat} {h0 : Hp}
def wpOne (P : Program) (ops : Array Oper) (C : World → Prop) (K : Act → Prop) : List Oper → Act → Prop
 | [], a => K a
 | o :: rest, a => ∃ v, YieldsIf P ops C o v a ∧ wpOne P ops C K rest (a.put o.dst v)
def Wk (m : Md) (P : Program) (ops : Array Oper) (Q : Exit → Act → World → Prop) (C : World → Prop) (rest : List Oper) (a : Act) (w : World) : Prop :=
 match m with
 | .txt => wpList P ops Q rest a w
 | .qui => wpQuiet P ops C (fun a' => ∀ w', C w' → Q .normal a' w') rest a
 | .still tl => wpStill P ops w (fun a' => wpList P ops Q tl a' w) rest a
 | .one => wpOne P ops C (fun a' => ∀ w', C w' → Q .normal a' w') rest a
 | .held _ => HeldAt ops rest → wpAnyH P .any ops (NoPanic Q) C rest.length (lst ops.size (ops.size - rest.length)) a w
def Sy (m : Md) (P : Program) (ops : Array Oper) (Q : Exit → Act → World → Prop) (n : Nat) (D : List Deferred) (w0 : World) (M : List Nat) (h0 : Hp) (rest : List Oper) (f : Tab) (h : Hp) (H : List Res) : Prop :=
 ∀ a w, Holds n D f a → St w0 M h0 h (m.ext H) w → Wk m P ops Q (St w0 M h0 h H) rest a w
def Cy (P : Program) (c : Code) (Q : Exit → Act → World → Prop) (n : Nat) (D : List Deferred) (w0 : World) (M : List Nat) (h0 : Hp) (f : Tab) (h : Hp) (H : List Res) : Prop :=
 ∀ a w, Holds n D f a → St w0 M h0 h H w → c.wp P Q a w
def Ny (Q : Exit → Act → World → Prop) (e : Exit) (n : Nat) (D : List Deferred) (w0 : World) (M : List Nat) (h0 : Hp) (f : Tab) (h : Hp) (H : List Res) : Prop :=
 ∀ a w, Holds n D f a → St w0 M h0 h H w → Q e a w
variable {f : Tab} {h : Hp} {H : List Res} {rest : List Oper} {o : Oper}
theorem lst_size (n : Nat) : ∀ k, (lst n k).size = n
 | 0 => by simp [lst]
 | k + 1 => by simp [lst, lst_size n k]
theorem lst_get (n : Nat) : ∀ k i, i < n → (lst n k).getD i true = decide (i < k)
 | 0, i, hi => by simp [lst, hi]
 | k + 1, i, hi => by
  unfold lst
  by_cases e : k = i
  · subst e
    have : k < (lst n k).size := by rw [lst_size]; exact hi
    simp [this]
  · rw [getD_set_ne true e, lst_get n k i hi]
    congr 1
    apply propext
    constructor <;> intro h <;> omega
theorem ready_done (ops : Array Oper) : Region.ready .any ops (lst ops.size ops.size) = [] := by
 unfold Region.ready
 rw [List.filter_eq_nil_iff]
 intro i hi
 have hi' := List.mem_range.1 hi
 rw [lst_get _ _ _ hi']
 simp [hi']
theorem sy_nil (hm : m.plain = true) (k : Ny Q .normal n D w0 M h0 f h H) : Sy m P ops Q n D w0 M h0 [] f h H := fun a w ha hs => by
 cases m with
 | txt => exact k a w ha hs
 | qui => exact fun w' hw' => k a w' ha hw'
 | held E => cases hm
 | still tl => cases hm
 | one => cases hm
theorem sy_nil1 (k : Ny Q .normal n D w0 M h0 f h H) : Sy .one P ops Q n D w0 M h0 [] f h H := fun a w ha hs w' hw' => k a w' ha hw'
theorem sy_nilH {E : List Res} (k : Ny Q .normal n D w0 M h0 f h (E ++ H)) : Sy (.held E) P ops Q n D w0 M h0 [] f h H := fun a w ha hs hh => wpAnyH_done (by simpa using ready_done ops) (NoPanic.normal (k a w ha hs)) _
theorem sy_tail {tl : List Oper} (k : Sy .txt P ops Q n D w0 M h0 tl f h H) : Sy (.still tl) P ops Q n D w0 M h0 [] f h H := fun a w ha hs => k a w ha hs
theorem HeldAt.head {ops : Array Oper} {o : Oper} {rest : List Oper} (hh : HeldAt ops (o :: rest)) : ∃ k, k = ops.size - (rest.length + 1) ∧ ops.size - rest.length = k + 1 ∧ ops[k]? = some o ∧ okAt ops k = true ∧ Region.noSelect ops = true ∧ HeldAt ops rest := by
 have hl := hh.len
 simp only [List.length_cons] at hl
 have hsuf := hh.suf
 simp only [List.length_cons] at hsuf
 have hall := hh.all
 unfold heldB at hall
 rw [Bool.and_eq_true] at hall
 have hk : ops.size - rest.length = (ops.size - (rest.length + 1)) + 1 := by omega
 have ho : ops[ops.size - (rest.length + 1)]? = some o := by
  have := congrArg (fun l => l[0]?) hsuf
  simp only [List.getElem?_cons_zero, List.getElem?_drop, Nat.add_zero, Array.getElem?_toList] at this
  exact this.symm
 refine ⟨_, rfl, hk, ho, List.all_eq_true.1 hall.2 _ (List.mem_range.2 (by omega)), hall.1, hh.all, by omega, ?_⟩
 rw [hk]
 have := congrArg List.tail hsuf
 simpa using this
theorem held_val {C : World → Prop} {a : Act} {w : World} {v : Value} {E E' : List Res} (hh : HeldAt ops (o :: rest)) (hC : C w) (hy : YieldsIf P ops C o v a)
    (h1 : Wk (.held E) P ops Q C rest (a.put o.dst v) w) : wpAnyH P .any ops (NoPanic Q) C (o :: rest).length (lst ops.size (ops.size - (o :: rest).length)) a w := by
 obtain ⟨k, hk, hk1, ho, hok, hsel, hr⟩ := hh.head
 have h2 := h1 hr
 rw [hk1] at h2
 simp only [List.length_cons]
 rw [← hk]
 unfold okAt at hok
 rw [Bool.or_eq_true] at hok
 rcases hok with h3 | h3
 · rw [Bool.and_eq_true] at h3
   exact wpAnyH_take ho hsel h3.1 h3.2 (fun c a w hq => hq.elim) hy hC h2
 · refine wpAnyH_all (rs := [k]) (by simpa using h3) (by simp) (fun i hi => ?_)
   simp only [List.mem_singleton] at hi
   subst hi
   exact hy.wpOp ho hC ⟨hC, h2⟩
def loneB (ops : Array Oper) (k : Nat) : Bool := Region.ready .any ops (lst ops.size k) == [k]
theorem held_eff {C : World → Prop} {a : Act} {w : World} (hh : HeldAt ops (o :: rest)) (hl : loneB ops (ops.size - (rest.length + 1)) = true) (hw : gok ops f o.guard = some true) (ha : Holds n D f a)
    (h1 : ∀ K : Act → World → Prop, (∀ a' w', C w' → wpAnyH P .any ops (NoPanic Q) C rest.length (lst ops.size (ops.size - rest.length)) a' w' → K a' w') → o.wp P a w K (NoPanic Q)) :
    wpAnyH P .any ops (NoPanic Q) C (o :: rest).length (lst ops.size (ops.size - (o :: rest).length)) a w := by
 obtain ⟨k, hk, hk1, ho, hok, hsel, hr⟩ := hh.head
 simp only [List.length_cons]
 rw [← hk] at hl ⊢
 refine wpAnyH_all (rs := [k]) (by simpa [loneB] using hl) (by simp) (fun i hi => ?_)
 simp only [List.mem_singleton] at hi
 subst hi
 unfold wpOp
 simp only [ho]
 rw [if_pos (gok_wanted ha hw)]
 refine .inl (h1 _ (fun a' w' hc hk' => ⟨hc, ?_⟩))
 rw [hk1] at hk'
 exact hk'
theorem St.tail {E H : List Res} {w : World} (hs : St w0 M h0 h (E ++ H) w) : St w0 M h0 h H w := hs.perm (List.sublist_append_right _ _)
theorem St.base {m : Md} {H : List Res} {w : World} (hs : St w0 M h0 h (m.ext H) w) : St w0 M h0 h H w := by
 cases m with
 | txt => exact hs
 | qui => exact hs
 | held E => exact hs.tail
 | still tl => exact hs
 | one => exact hs
theorem sy_op (hw : gok ops f o.guard = some true)
    (k : ∀ a w, Holds n D f a → St w0 M h0 h H w → o.wp P a w (wpList P ops Q rest) Q) : Sy .txt P ops Q n D w0 M h0 (o :: rest) f h H := by
 intro a w ha hs
 unfold Wk wpList
 rw [if_pos (gok_wanted ha hw)]
 exact .inl (k a w ha hs)
theorem sy_eff {E : List Res} (hl : loneB ops (ops.size - (rest.length + 1)) = true) (hw : gok ops f o.guard = some true)
    (k : ∀ a w, Holds n D f a → St w0 M h0 h (E ++ H) w → ∃ nx w' v E' f', (execOp a.eval o).run P w = .ok nx w' ∧ (nx = .value v ∨ nx = .skip ∧ v = undef) ∧ Holds n D f' (a.put o.dst v) ∧ St w0 M h0 h (E' ++ H) w' ∧ Sy (.held E') P ops Q n D w0 M h0 rest f' h H) :
    Sy (.held E) P ops Q n D w0 M h0 (o :: rest) f h H := by
 intro a w ha hs hh
 refine held_eff hh hl hw ha fun K hK => ?_
 obtain ⟨nx, w', v, E', f', h1, h2, h3, h4, h5⟩ := k a w ha hs
 unfold Oper.wp
 rw [h1]
 have h6 := h5 _ _ h3 h4 hh.head.choose_spec.2.2.2.2.2
 rcases h2 with rfl | ⟨rfl, rfl⟩
 · exact hK _ _ h4.tail h6
 · exact hK _ _ h4.tail h6
theorem sy_skip {d : Nat} (hw : gok ops f o.guard = some false) (hd : o.dst = some d) (hn : Nat.blt d n = true) (k : Sy m P ops Q n D w0 M h0 rest ((d, undef) :: f) h H) : Sy m P ops Q n D w0 M h0 (o :: rest) f h H := by
 intro a w ha hs
 have h1 := k _ w (ha.put d undef hn) hs
 cases m with
 | txt =>
  unfold Wk wpList
  rw [gok_wanted ha hw, hd]
  exact h1
 | qui =>
  unfold Wk wpQuiet
  rw [gok_wanted ha hw, hd]
  exact h1
 | held E => exact fun hh => held_val (E := E) (E' := E) hh hs.tail (.inr ⟨gok_wanted ha hw, rfl⟩) (by rw [hd]; exact h1)
 | still tl =>
  show wpStill P ops w _ (o :: rest) a
  unfold wpStill
  rw [gok_wanted ha hw, hd]
  exact h1
 | one =>
  refine ⟨undef, .inr ⟨gok_wanted ha hw, rfl⟩, ?_⟩
  rw [hd]
  exact h1
theorem sy_val {d : Nat} {v : Value} (hw : gok ops f o.guard = some true) (hd : o.dst = some d) (hn : Nat.blt d n = true)
    (hrun : ∀ a w, Holds n D f a → St w0 M h0 h H w → (execOp a.eval o).run P w = .ok (.value v) w) (k : Sy m P ops Q n D w0 M h0 rest ((d, v) :: f) h H) : Sy m P ops Q n D w0 M h0 (o :: rest) f h H := by
 intro a w ha hs
 have h1 := k _ w (ha.put d v hn) hs
 cases m with
 | txt =>
  unfold Wk wpList
  rw [if_pos (gok_wanted ha hw)]
  refine .inl ?_
  unfold Oper.wp
  rw [hrun a w ha hs]
  show wpList P ops Q rest (a.put o.dst v) w
  rw [hd]
  exact h1
 | qui =>
  unfold Wk wpQuiet
  rw [if_pos (gok_wanted ha hw)]
  refine ⟨v, fun w' hw' => ?_, ?_⟩
  · unfold Oper.quietAt
    rw [hrun a w' ha hw']
    exact ⟨rfl, rfl⟩
  · rw [hd]
    exact h1
 | held E => exact fun hh => held_val (E := E) (E' := E) hh hs.tail (.inl ⟨gok_wanted ha hw, fun w' hw' => hrun a w' ha hw'⟩) (by rw [hd]; exact h1)
 | still tl =>
  show wpStill P ops w _ (o :: rest) a
  unfold wpStill
  rw [if_pos (gok_wanted ha hw)]
  unfold Oper.still
  rw [hrun a w ha hs]
  refine ⟨rfl, ?_⟩
  rw [hd]
  exact h1
 | one =>
  refine ⟨v, .inl ⟨gok_wanted ha hw, fun w' hw' => hrun a w' ha hw'⟩, ?_⟩
  rw [hd]
  exact h1
theorem sy_enter {d : Nat} {v : Value} {F : Nat} {args : Array Value} (hm : m.plain = true) (hw : gok ops f o.guard = some true) (hd : o.dst = some d) (hn : Nat.blt d n = true)
    (hrun : ∀ a w, Holds n D f a → (execOp a.eval o).run P w = .ok (.enter F args) w) (hc : ∀ w, St w0 M h0 h H w → Calls P F args w fun e w' => e = .returned v ∧ Frm w [] w')
    (k : Sy m P ops Q n D w0 M h0 rest ((d, v) :: f) h H) : Sy m P ops Q n D w0 M h0 (o :: rest) f h H := by
 intro a w ha hs
 cases m with
 | txt =>
  unfold Wk wpList
  rw [if_pos (gok_wanted ha hw)]
  refine .inl ?_
  unfold Oper.wp
  rw [hrun a w ha]
  refine (hc w hs).mono fun e w' ⟨he, hf⟩ => ?_
  subst he
  show wpList P ops Q rest (a.put o.dst v) w'
  rw [hd]
  exact k _ w' (ha.put d v hn) (hs.grow hf)
 | qui =>
  unfold Wk wpQuiet
  rw [if_pos (gok_wanted ha hw)]
  refine ⟨v, fun w' hw' => ?_, ?_⟩
  · unfold Oper.quietAt
    rw [hrun a w' ha]
    exact ⟨rfl, (hc w' hw').mono fun e w'' ⟨he, hf⟩ => ⟨he, hw'.grow hf⟩⟩
  · rw [hd]
    exact k _ w (ha.put d v hn) hs
 | held E => cases hm
 | still tl => cases hm
 | one => cases hm
theorem cy_weak {c : Code} {f' : Tab} (hl : Tab.Le f' f) (k : Cy P c Q n D w0 M h0 f' h H) : Cy P c Q n D w0 M h0 f h H := fun a w ha hs => k a w (ha.weak hl) hs
theorem sy_cond {d : Nat} (e : Bool) (hd : f.get d = some (.bool e)) (hn : Nat.blt d n = true) (kt : e = true → Sy m P ops Q n D w0 M h0 rest ((d, .bool true) :: f) h H) (kf : e = false → Sy m P ops Q n D w0 M h0 rest ((d, .bool false) :: f) h H) :
    Sy m P ops Q n D w0 M h0 rest f h H := fun a w ha hs => by
 have key : ∀ b : Bool, e = b → Holds n D ((d, .bool b) :: f) a := fun b hb => by
  subst hb
  refine ⟨ha.size, ha.defers, fun i v hi => ?_⟩
  unfold Tab.get at hi
  cases hbq : Nat.beq i d with
  | true =>
   rw [hbq] at hi
   simp only [cond_true, Option.some.injEq] at hi
   subst hi
   have := Nat.eq_of_beq_eq_true hbq
   subst this
   exact ha.get _ _ hd
  | false =>
   rw [hbq] at hi
   exact ha.get i v hi
 cases he : e with
 | true => exact kt he a w (key _ he) hs
 | false => exact kf he a w (key _ he) hs
/-! facts of the program's types, each a Bool for the kernel -/
def fldB (P : Program) (s i off : Nat) : Bool :=
 match P.underlying s with
 | some (.struct fs) => (match fs[i]? with
  | some fl => (match P.info? fl.type with
   | some inf => inf.size != 0 && fl.offset == off
   | none => false)
  | none => false)
 | _ => false
def elsB (P : Program) (s e sz : Nat) : Bool :=
 (match P.underlying s with
 | some (.slice e') => e' == e
 | _ => false) && (match P.info? e with | some inf => inf.size == sz | none => false)
def oneB (P : Program) (t : Nat) : Bool :=
 match P.underlying t with
 | some (.struct _) => false
 | some (.array _ _) => false
 | some _ => true
 | none => false
def aggB (P : Program) (t sz : Nat) : Bool :=
 (match P.underlying t with
 | some (.struct _) => true
 | some (.array _ _) => true
 | _ => false) && (match P.info? t with | some inf => inf.size == sz | none => false)
theorem fld_spec {P : Program} {s i off : Nat} (h : fldB P s i off = true) : ∃ fs fl inf, P.underlying s = some (.struct fs) ∧ fs[i]? = some fl ∧ P.info? fl.type = some inf ∧ inf.size ≠ 0 ∧ fl.offset = off := by
 unfold fldB at h
 split at h
 · rename_i fs hs
   split at h
   · rename_i fl hf
     split at h
     · rename_i inf hi
       simp only [Bool.and_eq_true, bne_iff_ne, beq_iff_eq] at h
       exact ⟨fs, fl, inf, hs, hf, hi, h.1, h.2⟩
     · cases h
   · cases h
 · cases h
theorem els_spec {P : Program} {s e sz : Nat} (h : elsB P s e sz = true) : P.underlying s = some (.slice e) ∧ ∃ inf, P.info? e = some inf ∧ inf.size = sz := by
 unfold elsB at h
 rw [Bool.and_eq_true] at h
 obtain ⟨h1, h2⟩ := h
 split at h1
 · rename_i e' he
   have : e' = e := by simpa using h1
   subst this
   refine ⟨he, ?_⟩
   split at h2
   · rename_i inf hi
     exact ⟨inf, hi, by simpa using h2⟩
   · cases h2
 · cases h1
theorem one_spec {P : Program} {t : Nat} (h : oneB P t = true) (w : World) : (isAgg t).run P w = .ok false w := by
 unfold oneB at h
 cases hu : P.underlying t with
 | none => rw [hu] at h; cases h
 | some d =>
  rw [hu] at h
  cases d <;> first | (simp at h; done) | simp [isAgg, run_underlying hu]
theorem agg_spec {P : Program} {t sz : Nat} (h : aggB P t sz = true) (w : World) : (isAgg t).run P w = .ok true w ∧ (sizeOf t).run P w = .ok sz w := by
 unfold aggB at h
 rw [Bool.and_eq_true] at h
 obtain ⟨h1, h2⟩ := h
 constructor
 · cases hu : P.underlying t with
   | none => rw [hu] at h1; cases h1
   | some d =>
    rw [hu] at h1
    cases d <;> first | (simp at h1; done) | simp [isAgg, run_underlying hu]
 · split at h2
   · rename_i inf hi
     have : inf.size = sz := by simpa using h2
     simp [sizeOf, typeInfo, hi, this]
   · cases h2
theorem Addr.add_at (g off j : Nat) : (⟨g, off, none⟩ : Addr).add j = ⟨g, off + j, none⟩ := by unfold Addr.add; split <;> simp_all
theorem sy_setT {d : Nat} {e : Bool} (hd : f.get d = some (.bool e)) (hn : Nat.blt d n = true) (he : e = true) (k : Sy m P ops Q n D w0 M h0 rest ((d, .bool true) :: f) h H) : Sy m P ops Q n D w0 M h0 rest f h H :=
 sy_cond e hd hn (fun _ => k) (fun h1 => by rw [h1] at he; cases he)
theorem sy_setF {d : Nat} {e : Bool} (hd : f.get d = some (.bool e)) (hn : Nat.blt d n = true) (he : e = false) (k : Sy m P ops Q n D w0 M h0 rest ((d, .bool false) :: f) h H) : Sy m P ops Q n D w0 M h0 rest f h H :=
 sy_cond e hd hn (fun h1 => by rw [h1] at he; cases he) (fun _ => k)
section ops
variable {d t s : Nat} {p : String} {af : Array Edge} {g : Option (Nat × Bool)}
theorem sy_move {x : Operand} {v : Value} (hx : f.ev x = some v) (hw : gok ops f g = some true) (hn : Nat.blt d n = true) (k : Sy m P ops Q n D w0 M h0 rest ((d, v) :: f) h H) :
    Sy m P ops Q n D w0 M h0 (⟨some d, .move x, t, p, af, g⟩ :: rest) f h H := sy_val hw rfl hn (fun a w ha _ => by simp [execOp, ha.ev hx]) k
theorem sy_assign {x : Operand} {v : Value} (hx : f.ev x = some v) (hw : gok ops f g = some true) (hn : Nat.blt d n = true) (k : Sy m P ops Q n D w0 M h0 rest ((d, v) :: f) h H) :
    Sy m P ops Q n D w0 M h0 (⟨some d, .assign x, t, p, af, g⟩ :: rest) f h H := sy_val hw rfl hn (fun a w ha _ => by simp [execOp, ha.ev hx]) k
theorem sy_pickT {c x y : Operand} {v : Value} (hc : f.ev c = some (.bool true)) (hx : f.ev x = some v) (hw : gok ops f g = some true) (hn : Nat.blt d n = true) (k : Sy m P ops Q n D w0 M h0 rest ((d, v) :: f) h H) :
    Sy m P ops Q n D w0 M h0 (⟨some d, .pick c x y, t, p, af, g⟩ :: rest) f h H := sy_val hw rfl hn (fun a w ha _ => by simp [execOp, ha.ev hx, ha.ev hc, asBool]) k
theorem sy_pickF {c x y : Operand} {v : Value} (hc : f.ev c = some (.bool false)) (hy : f.ev y = some v) (hw : gok ops f g = some true) (hn : Nat.blt d n = true) (k : Sy m P ops Q n D w0 M h0 rest ((d, v) :: f) h H) :
    Sy m P ops Q n D w0 M h0 (⟨some d, .pick c x y, t, p, af, g⟩ :: rest) f h H := sy_val hw rfl hn (fun a w ha _ => by simp [execOp, ha.ev hy, ha.ev hc, asBool]) k
theorem sy_nilCheck {x : Operand} {ad : Addr} (hx : f.ev x = some (.pointer (some ad))) (hw : gok ops f g = some true) (hn : Nat.blt d n = true) (k : Sy m P ops Q n D w0 M h0 rest ((d, .pointer (some ad)) :: f) h H) :
    Sy m P ops Q n D w0 M h0 (⟨some d, .nilCheck x, t, p, af, g⟩ :: rest) f h H := sy_val hw rfl hn (fun a w ha _ => by simp [execOp, ha.ev hx]) k
theorem sy_not {x : Operand} {b : Bool} (hx : f.ev x = some (.bool b)) (hw : gok ops f g = some true) (hn : Nat.blt d n = true) (k : Sy m P ops Q n D w0 M h0 rest ((d, .bool (!b)) :: f) h H) :
    Sy m P ops Q n D w0 M h0 (⟨some d, .unOp .not s x, t, p, af, g⟩ :: rest) f h H := sy_val hw rfl hn (fun a w ha _ => by simp [execOp, ha.ev hx, Op.unary]) k
theorem sy_extract {x : Operand} {vs : Array Value} {i : Nat} {v : Value} (hx : f.ev x = some (.tuple vs)) (hi : vs[i]? = some v) (hw : gok ops f g = some true) (hn : Nat.blt d n = true) (k : Sy m P ops Q n D w0 M h0 rest ((d, v) :: f) h H) :
    Sy m P ops Q n D w0 M h0 (⟨some d, .extract x i, t, p, af, g⟩ :: rest) f h H := sy_val hw rfl hn (fun a w ha _ => by simp [execOp, ha.ev hx, Instr.extract, hi]) k
/-! whole numbers -/
theorem sy_cmp {op : BinOp} {x y : Operand} {ik : IntKind} {m1 m2 : Int} {b : Bool} {s2 : Nat} (hx : f.ev x = some (.int ik m1)) (hy : f.ev y = some (.int ik m2))
    (hb : match op with | .eql => b = (m1 == m2) | .neq => b = (m1 != m2) | .lss => b = decide (m1 < m2) | .leq => b = decide (m1 ≤ m2) | .gtr => b = decide (m1 > m2) | .geq => b = decide (m1 ≥ m2) | _ => False)
    (hw : gok ops f g = some true) (hn : Nat.blt d n = true) (k : Sy m P ops Q n D w0 M h0 rest ((d, .bool b) :: f) h H) :
    Sy m P ops Q n D w0 M h0 (⟨some d, .binOp op s x y s2, t, p, af, g⟩ :: rest) f h H := by
 refine sy_val hw rfl hn (fun a w ha _ => ?_) k
 cases op <;> simp only at hb <;> first | exact hb.elim | (subst hb; simp [execOp, ha.ev hx, ha.ev hy, eqGuard_at_int, binOp, Op.intCmp])
theorem sy_add {x y : Operand} {ik : IntKind} {m1 m2 : Int} {s2 : Nat} (hx : f.ev x = some (.int ik m1)) (hy : f.ev y = some (.int ik m2)) (hw : gok ops f g = some true) (hn : Nat.blt d n = true)
    (k : Sy m P ops Q n D w0 M h0 rest ((d, .int ik (ik.wrap (m1 + m2))) :: f) h H) : Sy m P ops Q n D w0 M h0 (⟨some d, .binOp .add s x y s2, t, p, af, g⟩ :: rest) f h H :=
 sy_val hw rfl hn (fun a w ha _ => by simp [execOp, ha.ev hx, ha.ev hy, binOp, Op.intArith, eqGuard_add]) k
theorem sy_sub {x y : Operand} {ik : IntKind} {m1 m2 : Int} {s2 : Nat} (hx : f.ev x = some (.int ik m1)) (hy : f.ev y = some (.int ik m2)) (hw : gok ops f g = some true) (hn : Nat.blt d n = true)
    (k : Sy m P ops Q n D w0 M h0 rest ((d, .int ik (ik.wrap (m1 - m2))) :: f) h H) : Sy m P ops Q n D w0 M h0 (⟨some d, .binOp .sub s x y s2, t, p, af, g⟩ :: rest) f h H :=
 sy_val hw rfl hn (fun a w ha _ => by simp [execOp, ha.ev hx, ha.ev hy, binOp, Op.intArith, eqGuard_sub]) k
theorem sy_mul {x y : Operand} {ik : IntKind} {m1 m2 : Int} {s2 : Nat} (hx : f.ev x = some (.int ik m1)) (hy : f.ev y = some (.int ik m2)) (hw : gok ops f g = some true) (hn : Nat.blt d n = true)
    (k : Sy m P ops Q n D w0 M h0 rest ((d, .int ik (ik.wrap (m1 * m2))) :: f) h H) : Sy m P ops Q n D w0 M h0 (⟨some d, .binOp .mul s x y s2, t, p, af, g⟩ :: rest) f h H :=
 sy_val hw rfl hn (fun a w ha _ => by simp [execOp, ha.ev hx, ha.ev hy, binOp, Op.intArith, eqGuard_mul]) k
theorem sy_addi {x y : Operand} {m1 m2 z : Int} {s2 : Nat} (hx : f.ev x = some (.int .i64 m1)) (hy : f.ev y = some (.int .i64 m2)) (hz : m1 + m2 = z) (hl : -9223372036854775808 ≤ z) (hu : z ≤ 9223372036854775807) (hw : gok ops f g = some true) (hn : Nat.blt d n = true)
    (k : Sy m P ops Q n D w0 M h0 rest ((d, .int .i64 z) :: f) h H) : Sy m P ops Q n D w0 M h0 (⟨some d, .binOp .add s x y s2, t, p, af, g⟩ :: rest) f h H :=
 sy_add hx hy hw hn (by rw [hz, IntWalk.i64_in z ⟨hl, hu⟩]; exact k)
theorem sy_subi {x y : Operand} {m1 m2 z : Int} {s2 : Nat} (hx : f.ev x = some (.int .i64 m1)) (hy : f.ev y = some (.int .i64 m2)) (hz : m1 - m2 = z) (hl : -9223372036854775808 ≤ z) (hu : z ≤ 9223372036854775807) (hw : gok ops f g = some true) (hn : Nat.blt d n = true)
    (k : Sy m P ops Q n D w0 M h0 rest ((d, .int .i64 z) :: f) h H) : Sy m P ops Q n D w0 M h0 (⟨some d, .binOp .sub s x y s2, t, p, af, g⟩ :: rest) f h H :=
 sy_sub hx hy hw hn (by rw [hz, IntWalk.i64_in z ⟨hl, hu⟩]; exact k)
theorem sy_bin {op : BinOp} {x y : Operand} {i1 i2 i3 : IntKind} {m1 m2 z : Int} {s2 : Nat} (hx : f.ev x = some (.int i1 m1)) (hy : f.ev y = some (.int i2 m2))
    (hop : op ≠ .eql ∧ op ≠ .neq) (hr : ∀ w, (binOp op s (.int i1 m1) (.int i2 m2)).run P w = .ok (.int i3 z) w) (hw : gok ops f g = some true) (hn : Nat.blt d n = true)
    (k : Sy m P ops Q n D w0 M h0 rest ((d, .int i3 z) :: f) h H) : Sy m P ops Q n D w0 M h0 (⟨some d, .binOp op s x y s2, t, p, af, g⟩ :: rest) f h H :=
 sy_val hw rfl hn (fun a w ha _ => by
  have he : eqGuard op s x y (.int i1 m1) (.int i2 m2) = pure () := by cases op <;> rfl
  simp [execOp, ha.ev hx, ha.ev hy, he, hr]) k
theorem sy_conv {x : Operand} {i1 i2 : IntKind} {mm : Int} {s2 : Nat} (hs : P.underlying s = some (.int i1)) (ht : P.underlying s2 = some (.int i2)) (hx : f.ev x = some (.int i1 mm)) (hw : gok ops f g = some true) (hn : Nat.blt d n = true)
    (k : Sy m P ops Q n D w0 M h0 rest ((d, .int i2 (i2.wrap mm)) :: f) h H) : Sy m P ops Q n D w0 M h0 (⟨some d, .convert s s2 x, t, p, af, g⟩ :: rest) f h H :=
 sy_val hw rfl hn (fun a w ha _ => by simp [execOp, ha.ev hx, convert, run_underlying hs, run_underlying ht, Conv.intToInt]) k
theorem sy_eqs {x y : Operand} {b1 b2 : ByteArray} {s2 : Nat} (hx : f.ev x = some (.string b1)) (hy : f.ev y = some (.string b2)) (hw : gok ops f g = some true) (hn : Nat.blt d n = true)
    (k : Sy m P ops Q n D w0 M h0 rest ((d, .bool (b1.data.toList == b2.data.toList)) :: f) h H) : Sy m P ops Q n D w0 M h0 (⟨some d, .binOp .eql s x y s2, t, p, af, g⟩ :: rest) f h H :=
 sy_val hw rfl hn (fun a w ha _ => by simp [execOp, ha.ev hx, ha.ev hy, eqGuard_at_string, binOp, Op.stringOp, ByteArray.toList_eq]) k
theorem sy_nes {x y : Operand} {b1 b2 : ByteArray} {s2 : Nat} (hx : f.ev x = some (.string b1)) (hy : f.ev y = some (.string b2)) (hw : gok ops f g = some true) (hn : Nat.blt d n = true)
    (k : Sy m P ops Q n D w0 M h0 rest ((d, .bool (!(b1.data.toList == b2.data.toList))) :: f) h H) : Sy m P ops Q n D w0 M h0 (⟨some d, .binOp .neq s x y s2, t, p, af, g⟩ :: rest) f h H :=
 sy_val hw rfl hn (fun a w ha _ => by simp [execOp, ha.ev hx, ha.ev hy, eqGuard_at_string, binOp, Op.stringOp, ByteArray.toList_eq]) k
theorem sy_cat {x y : Operand} {b1 b2 : ByteArray} {s2 : Nat} (hx : f.ev x = some (.string b1)) (hy : f.ev y = some (.string b2)) (hsz : b1.size + b2.size ≤ 9223372036854775807) (hw : gok ops f g = some true) (hn : Nat.blt d n = true)
    (k : Sy m P ops Q n D w0 M h0 rest ((d, .string (b1 ++ b2)) :: f) h H) : Sy m P ops Q n D w0 M h0 (⟨some d, .binOp .add s x y s2, t, p, af, g⟩ :: rest) f h H :=
 sy_val hw rfl hn (fun a w ha _ => by
  have h2 : ¬ (((b1.size + b2.size : Nat) : Int) > IntKind.i64.max) := by rw [IntKind.max_i64]; omega
  have h3 : ¬ ((9223372036854775807 : Int) < (b1.size : Int) + (b2.size : Int)) := by omega
  simp [execOp, ha.ev hx, ha.ev hy, eqGuard_add, binOp, Op.stringOp, h3]) k
theorem sy_len {x : Operand} {s1 : Nat} {z : Int} {v : Value} (hx : f.ev x = some v) (hz : ∀ w, (Builtin.len_ #[s1] t #[v]).run P w = .ok (.int .i64 z) w) (hw : gok ops f g = some true) (hn : Nat.blt d n = true)
    (k : Sy m P ops Q n D w0 M h0 rest ((d, .int .i64 z) :: f) h H) : Sy m P ops Q n D w0 M h0 (⟨some d, .call ⟨.builtin .len, #[x], #[s1]⟩, t, p, af, g⟩ :: rest) f h H :=
 sy_val hw rfl hn (fun a w ha _ => by simp [execOp, resolve, invoke, builtin, ha.ev hx, hz]) k
theorem len_slice {P : Program} {s1 e t : Nat} (hs : P.underlying s1 = some (.slice e)) (a : Option Addr) (m c : Nat) (w : World) : (Builtin.len_ #[s1] t #[.slice a m c]).run P w = .ok (.int .i64 (m : Int)) w := by
 simp [Builtin.len_, run_underlying hs, goInt]
theorem len_string {P : Program} {s1 t : Nat} (hs : P.underlying s1 = some .string) (s : ByteArray) (w : World) : (Builtin.len_ #[s1] t #[.string s]).run P w = .ok (.int .i64 (s.size : Int)) w := by
 simp [Builtin.len_, run_underlying hs, goInt]
theorem sy_idxs {x y : Operand} {bs : ByteArray} {ik : IntKind} {i : Int} {u : UInt8} (hs : P.underlying s = some .string) (hx : f.ev x = some (.string bs)) (hy : f.ev y = some (.int ik i)) (h0' : 0 ≤ i) (hu : bs[i.toNat]? = some u) (hw : gok ops f g = some true) (hn : Nat.blt d n = true)
    (k : Sy m P ops Q n D w0 M h0 rest ((d, .int .u8 (u.toNat : Int)) :: f) h H) : Sy m P ops Q n D w0 M h0 (⟨some d, .index s x y, t, p, af, g⟩ :: rest) f h H :=
 sy_val hw rfl hn (fun a w ha _ => by simp [execOp, ha.ev hx, ha.ev hy, Instr.index, asIntOf, run_underlying hs, h0', hu]) k
/-! places -/
theorem sy_field {x : Operand} {b off i o : Nat} (hs : fldB P s i o = true) (hx : f.ev x = some (.pointer (some ⟨b, off, none⟩))) (hw : gok ops f g = some true) (hn : Nat.blt d n = true)
    (k : Sy m P ops Q n D w0 M h0 rest ((d, .pointer (some ⟨b, off + o, none⟩)) :: f) h H) : Sy m P ops Q n D w0 M h0 (⟨some d, .fieldAddr s x i, t, p, af, g⟩ :: rest) f h H := by
 obtain ⟨fs, fl, inf, h1, h2, h3, h4, h5⟩ := fld_spec hs
 exact sy_val hw rfl hn (fun a w ha _ => by simp [execOp, ha.ev hx, Instr.fieldAt, run_underlying h1, h2, Instr.sureAddr, fieldPlace, sizeOf, typeInfo, h3, h4, h5, Addr.add_at]) k
theorem sy_idxS {x y : Operand} {b off len cap e sz : Nat} {ik : IntKind} {i : Int} (hs : elsB P s e sz = true) (hx : f.ev x = some (.slice (some ⟨b, off, none⟩) len cap)) (hy : f.ev y = some (.int ik i)) (h0' : 0 ≤ i) (h1 : i < len)
    (hw : gok ops f g = some true) (hn : Nat.blt d n = true)
    (k : Sy m P ops Q n D w0 M h0 rest ((d, .pointer (some ⟨b, off + i.toNat * sz, none⟩)) :: f) h H) : Sy m P ops Q n D w0 M h0 (⟨some d, .indexAddr s x y, t, p, af, g⟩ :: rest) f h H := by
 obtain ⟨h2, inf, h3, h4⟩ := els_spec hs
 exact sy_val hw rfl hn (fun a w ha _ => by simp [execOp, ha.ev hx, ha.ev hy, Instr.indexAt, asIntOf, run_underlying h2, h0', h1, sizeOf, typeInfo, h3, h4, Addr.add_at]) k
end ops
end
end Go.Proofs.YtanhhihechakhaaDoor.E
set_option linter.unusedVariables false
set_option linter.unusedSimpArgs false
namespace Go.Proofs.YtanhhihechakhaaDoor.E
open Go.RowKit
def pickR : Nat → List Res → Option (Res × List Res)
 | _, [] => none
 | 0, r :: t => some (r, t)
 | i + 1, r :: t => match pickR i t with
  | some (x, t') => some (x, r :: t')
  | none => none
theorem pickR_perm : ∀ {i : Nat} {H : List Res} {r : Res} {H1 : List Res}, pickR i H = some (r, H1) → H.Perm (r :: H1)
 | _, [], _, _, h => by simp [pickR] at h
 | 0, r :: t, _, _, h => by
  simp only [pickR, Option.some.injEq, Prod.mk.injEq] at h
  obtain ⟨rfl, rfl⟩ := h
  exact List.Perm.refl _
 | i + 1, r :: t, x, H1, h => by
  unfold pickR at h
  split at h
  · rename_i y t' hy
    simp only [Option.some.injEq, Prod.mk.injEq] at h
    obtain ⟨rfl, rfl⟩ := h
    exact ((pickR_perm hy).cons r).trans (List.Perm.swap _ _ _)
  · cases h
def selR : List Nat → List Res → Option (List Res)
 | [], _ => some []
 | i :: is, H => match pickR i H with
  | some (r, t) => (match selR is t with | some l => some (r :: l) | none => none)
  | none => none
theorem selR_spec : ∀ {is : List Nat} {H L : List Res}, selR is H = some L → ∃ H', H.Perm H' ∧ L.Sublist H'
 | [], H, L, h => by
  simp only [selR, Option.some.injEq] at h
  subst h
  exact ⟨H, List.Perm.refl _, List.nil_sublist _⟩
 | i :: is, H, L, h => by
  unfold selR at h
  split at h
  · rename_i r t hp
    split at h
    · rename_i l hl
      simp only [Option.some.injEq] at h
      subst h
      obtain ⟨H', h1, h2⟩ := selR_spec hl
      exact ⟨r :: H', (pickR_perm hp).trans (h1.cons r), h2.cons_cons r⟩
    · cases h
  · cases h
theorem St.sel {w0 : World} {M : List Nat} {h0 h : Hp} {H L : List Res} {w : World} {is : List Nat} (s : St w0 M h0 h H w) (hs : selR is H = some L) : St w0 M h0 h L w := by
 obtain ⟨H', h1, h2⟩ := selR_spec hs
 exact (s.swap h1).perm h2
def takeO : Nat → List Value → Option (List Value)
 | 0, _ => some []
 | _ + 1, [] => none
 | n + 1, v :: t => match takeO n t with
  | some t' => some (v :: t')
  | none => none
def dropO : Nat → List Value → Option (List Value)
 | 0, l => some l
 | _ + 1, [] => none
 | n + 1, _ :: t => dropO n t
def sliceO (off n : Nat) (l : List Value) : Option (List Value) := match dropO off l with
 | some t => takeO n t
 | none => none
theorem takeO_spec : ∀ {n : Nat} {l t : List Value}, takeO n l = some t → t.length = n ∧ ∀ (j : Nat) (u : Value), t[j]? = some u → l[j]? = some u
 | 0, _, _, h => by
  simp only [takeO, Option.some.injEq] at h
  subst h
  simp
 | n + 1, [], _, h => by simp [takeO] at h
 | n + 1, v :: l, t, h => by
  unfold takeO at h
  split at h
  · rename_i t' ht
    simp only [Option.some.injEq] at h
    subst h
    obtain ⟨h1, h2⟩ := takeO_spec ht
    refine ⟨by simp [h1], fun j u hj => ?_⟩
    cases j with
    | zero => simpa using hj
    | succ j => exact h2 j u (by simpa using hj)
  · cases h
theorem dropO_spec : ∀ {n : Nat} {l t : List Value}, dropO n l = some t → ∀ j : Nat, t[j]? = l[n + j]?
 | 0, _, _, h, j => by
  simp only [dropO, Option.some.injEq] at h
  subst h
  simp
 | n + 1, [], _, h, _ => by simp [dropO] at h
 | n + 1, v :: l, t, h, j => by
  rw [dropO_spec (n := n) (l := l) h j, show n + 1 + j = (n + j) + 1 by omega, List.getElem?_cons_succ]
theorem sliceO_spec {off n : Nat} {l t : List Value} (h : sliceO off n l = some t) : t.length = n ∧ ∀ (j : Nat) (u : Value), t[j]? = some u → l[off + j]? = some u := by
 unfold sliceO at h
 split at h
 · rename_i t' ht
   obtain ⟨h1, h2⟩ := takeO_spec h
   exact ⟨h1, fun j u hj => by rw [← dropO_spec ht j]; exact h2 j u hj⟩
 · cases h
def putO : Nat → List Value → List Value → Option (List Value)
 | 0, [], l => some l
 | 0, v :: vs, _ :: l => (match putO 0 vs l with | some r => some (v :: r) | none => none)
 | 0, _ :: _, [] => none
 | _ + 1, _, [] => none
 | n + 1, vs, x :: l => (match putO n vs l with | some r => some (x :: r) | none => none)
theorem putO_spec : ∀ {n : Nat} {vs l r : List Value}, putO n vs l = some r → n + vs.length ≤ l.length ∧ l.take n ++ vs ++ l.drop (n + vs.length) = r
 | 0, [], l, r, h => by
  simp only [putO, Option.some.injEq] at h
  subst h
  simp
 | 0, v :: vs, [], r, h => by simp [putO] at h
 | 0, v :: vs, x :: l, r, h => by
  unfold putO at h
  split at h
  · rename_i r' hr
    simp only [Option.some.injEq] at h
    subst h
    obtain ⟨h1, h2⟩ := putO_spec hr
    refine ⟨by simp at h1 ⊢; omega, ?_⟩
    rw [← h2]
    simp
  · cases h
 | n + 1, vs, [], r, h => by simp [putO] at h
 | n + 1, vs, x :: l, r, h => by
  unfold putO at h
  split at h
  · rename_i r' hr
    simp only [Option.some.injEq] at h
    subst h
    obtain ⟨h1, h2⟩ := putO_spec hr
    refine ⟨by simp; omega, ?_⟩
    rw [← h2]
    simp [Nat.add_right_comm]
  · cases h
def cellsO : Value → Option (List Value)
 | .agg ⟨l⟩ => some l
 | .tuple _ => none
 | v => some [v]
theorem cellsO_spec {v : Value} {cs : List Value} (h : cellsO v = some cs) : v.cells = cs.toArray := by
 cases v <;> simp [cellsO] at h <;> first | (subst h; rfl)
def ones : List Value → Bool
 | [] => true
 | v :: t => v.oneCell' && ones t
theorem ones_spec : ∀ {l : List Value}, ones l = true → ∀ v ∈ l, v.oneCell' = true
 | [], _, _, h => by cases h
 | x :: t, h, v, hv => by
  simp only [ones, Bool.and_eq_true] at h
  rcases List.mem_cons.1 hv with rfl | hv
  · exact h.1
  · exact ones_spec h.2 v hv
def zerL (P : Program) (t : Nat) : Option (List Value) := match P.info? t with
 | some i => (match i.zero with | some z => cellsO z | none => none)
 | none => none
section
variable {m : Md} {P : Program} {ops : Array Oper} {Q : Exit → Act → World → Prop} {n : Nat} {D : List Deferred} {w0 : World} {M : List Nat} {h0 : Hp}
variable {f : Tab} {h : Hp} {H : List Res} {rest : List Oper} {o : Oper}
theorem cy_nilRow {c : Code} (e size : Nat) (k : Cy P c Q n D w0 M h0 f h (.row (.slice none 0 0) e size 0 [] :: H)) : Cy P c Q n D w0 M h0 f h H := fun a w ha hs => k a w ha (hs.nilRow e size)
theorem frz {g : Nat} {o' : Obj} {H1 : List Res} {w : World} (i : Nat) (hp : pickR i H = some (.blk g o', H1)) (hM : g ∉ M) (hs : St w0 M h0 h H w) : ∃ h', h.Le h' ∧ h' g = some o' ∧ St w0 M h0 h' H1 w := by
 obtain ⟨h1, h2⟩ := (hs.swap (pickR_perm hp)).freeze hM
 exact ⟨_, h2, by simp, h1⟩
theorem sy_frz {g : Nat} {o' : Obj} {H1 : List Res} (i : Nat) (hp : pickR i H = some (.blk g o', H1)) (hM : g ∉ M) (k : ∀ h', h.Le h' → h' g = some o' → Sy .txt P ops Q n D w0 M h0 rest f h' H1) : Sy .txt P ops Q n D w0 M h0 rest f h H := fun a w ha hs => by
 obtain ⟨h', h1, h2, h3⟩ := frz i hp hM hs
 exact k h' h1 h2 a w ha h3
theorem cy_frz {c : Code} {g : Nat} {o' : Obj} {H1 : List Res} (i : Nat) (hp : pickR i H = some (.blk g o', H1)) (hM : g ∉ M) (k : ∀ h', h.Le h' → h' g = some o' → Cy P c Q n D w0 M h0 f h' H1) : Cy P c Q n D w0 M h0 f h H := fun a w ha hs => by
 obtain ⟨h', h1, h2, h3⟩ := frz i hp hM hs
 exact k h' h1 h2 a w ha h3
theorem frzRow {v : Value} {e size l : Nat} {xs : List Value} {H1 : List Res} {w : World} (i : Nat) (hp : pickR i H = some (.row v e size l xs, H1)) (hM : ∀ g, v.ownBlock = some g → g ∉ M) (hs : St w0 M h0 h H w) :
    ∃ A c h', v = .slice A l c ∧ l ≤ c ∧ c ≤ maxLen ∧ xs.length = l * size ∧ h.Le h' ∧ (∀ j u, xs[j]? = some u → ∃ g, A = some ⟨g, 0, none⟩ ∧ h'.cell ⟨g, j, none⟩ = some u) ∧ (0 < l → ∃ g, A = some ⟨g, 0, none⟩) ∧ St w0 M h0 h' H1 w := by
 have hs' := hs.swap (pickR_perm hp)
 have hr : w.ownsRow 0 e size v l xs := hs'.ok _ (List.mem_cons_self)
 obtain ⟨hlen, hr'⟩ := hr
 rcases hr' with ⟨rfl, rfl⟩ | ⟨g, cap, cur, rfl, _, hg, hnc, hcm, hcs, htk⟩
 · refine ⟨none, 0, h, rfl, Nat.le_refl _, by simp [maxLen], hlen, Hp.Le.refl h, fun j u hj => ?_, fun h => absurd h (by omega), hs'.perm (List.sublist_cons_self _ _)⟩
   have : xs = [] := List.eq_nil_of_length_eq_zero (by simpa using hlen)
   subst this
   simp at hj
 · have hst : St w0 M h0 h (.blk g (.cells cur e (0, 0)) :: H1) w :=
    { hs' with
     ok := fun r hr => by
      rcases List.mem_cons.1 hr with rfl | hr
      · exact hg
      · exact hs'.ok r (List.mem_cons_of_mem _ hr)
     own := fun r hr k hk => by
      rcases List.mem_cons.1 hr with rfl | hr
      · exact hs'.own _ (List.mem_cons_self) k hk
      · exact hs'.own r (List.mem_cons_of_mem _ hr) k hk
     dis := List.Pairwise.cons (fun r hr k hk => (List.pairwise_cons.1 hs'.dis).1 r hr k hk) (List.pairwise_cons.1 hs'.dis).2 }
   obtain ⟨h1, h2⟩ := hst.freeze (hM g rfl)
   refine ⟨_, cap, _, rfl, hnc, hcm, hlen, h2, fun j u hj => ⟨g, rfl, ?_⟩, fun _ => ⟨g, rfl⟩, h1⟩
   have : cur[j]? = some u := by
    rw [← htk, List.getElem?_take] at hj
    split at hj
    · simpa using hj
    · cases hj
   simp [Hp.cell, this]
section ops
variable {d t s : Nat} {p : String} {af : Array Edge} {g : Option (Nat × Bool)}
/-! loads -/
theorem sy_ldv {x : Operand} {b off : Nat} {v : Value} (ht : oneB P t = true) (hx : f.ev x = some (.pointer (some ⟨b, off, none⟩))) (hc : ∀ w, St w0 M h0 h H w → w.cell? ⟨b, off, none⟩ = some v)
    (hw : gok ops f g = some true) (hn : Nat.blt d n = true) (k : Sy m P ops Q n D w0 M h0 rest ((d, v) :: f) h H) : Sy m P ops Q n D w0 M h0 (⟨some d, .load t x, s, p, af, g⟩ :: rest) f h H :=
 sy_val hw rfl hn (fun a w ha hs => by simp [execOp, ha.ev hx, Instr.loadAt, Instr.sureAddr, loadVar, one_spec ht, hc w hs]) k
theorem sy_ldh {x : Operand} {b off : Nat} {v : Value} (ht : oneB P t = true) (hx : f.ev x = some (.pointer (some ⟨b, off, none⟩))) (hc : h.cell ⟨b, off, none⟩ = some v)
    (hw : gok ops f g = some true) (hn : Nat.blt d n = true) (k : Sy m P ops Q n D w0 M h0 rest ((d, v) :: f) h H) : Sy m P ops Q n D w0 M h0 (⟨some d, .load t x, s, p, af, g⟩ :: rest) f h H :=
 sy_ldv ht hx (fun w hs => hs.sub.cell hc) hw hn k
theorem sy_ldr {x : Operand} {b off e : Nat} {cs : List Value} {H1 : List Res} {fr : Nat × Nat} {v : Value} (i : Nat) (ht : oneB P t = true) (hx : f.ev x = some (.pointer (some ⟨b, off, none⟩))) (hp : pickR i H = some (.blk b (.cells cs.toArray e fr), H1)) (hc : cs[off]? = some v)
    (hw : gok ops f g = some true) (hn : Nat.blt d n = true) (k : Sy m P ops Q n D w0 M h0 rest ((d, v) :: f) h H) : Sy m P ops Q n D w0 M h0 (⟨some d, .load t x, s, p, af, g⟩ :: rest) f h H :=
 sy_ldv ht hx (fun w hs => by
  have h1 : w.heap[b]? = some (.cells cs.toArray e fr) := (hs.swap (pickR_perm hp)).ok _ (List.mem_cons_self)
  simp [World.cell?, h1, hc]) hw hn k
theorem sy_ldav {x : Operand} {b off l : Nat} {vs : List Value} (ht : aggB P t l = true) (hl : vs.length = l) (hx : f.ev x = some (.pointer (some ⟨b, off, none⟩))) (hc : ∀ w, St w0 M h0 h H w → ∀ j u, vs[j]? = some u → w.cell? ⟨b, off + j, none⟩ = some u)
    (hw : gok ops f g = some true) (hn : Nat.blt d n = true) (k : Sy m P ops Q n D w0 M h0 rest ((d, .agg vs.toArray) :: f) h H) : Sy m P ops Q n D w0 M h0 (⟨some d, .load t x, s, p, af, g⟩ :: rest) f h H :=
 sy_val hw rfl hn (fun a w ha hs => by
  obtain ⟨h1, h2⟩ := agg_spec ht w
  subst hl
  have h3 := run_loadCells_list (P := P) w ⟨b, off, none⟩ vs (fun j u hj => by rw [Addr.add_at]; exact hc w hs j u hj)
  simp [execOp, ha.ev hx, Instr.loadAt, Instr.sureAddr, loadVar, h1, h2, h3]) k
theorem sy_ldah {x : Operand} {b off l : Nat} {vs : List Value} (ht : aggB P t l = true) (hl : vs.length = l) (hx : f.ev x = some (.pointer (some ⟨b, off, none⟩))) (hc : ∀ j u, vs[j]? = some u → h.cell ⟨b, off + j, none⟩ = some u)
    (hw : gok ops f g = some true) (hn : Nat.blt d n = true) (k : Sy m P ops Q n D w0 M h0 rest ((d, .agg vs.toArray) :: f) h H) : Sy m P ops Q n D w0 M h0 (⟨some d, .load t x, s, p, af, g⟩ :: rest) f h H :=
 sy_ldav ht hl hx (fun w hs j u hj => hs.sub.cell (hc j u hj)) hw hn k
theorem sy_ldar {x : Operand} {b off l e : Nat} {cs vs : List Value} {H1 : List Res} {fr : Nat × Nat} (i : Nat) (ht : aggB P t l = true) (hx : f.ev x = some (.pointer (some ⟨b, off, none⟩))) (hp : pickR i H = some (.blk b (.cells cs.toArray e fr), H1)) (hc : sliceO off l cs = some vs)
    (hw : gok ops f g = some true) (hn : Nat.blt d n = true) (k : Sy m P ops Q n D w0 M h0 rest ((d, .agg vs.toArray) :: f) h H) : Sy m P ops Q n D w0 M h0 (⟨some d, .load t x, s, p, af, g⟩ :: rest) f h H :=
 sy_ldav ht (sliceO_spec hc).1 hx (fun w hs j u hj => by
  have h1 : w.heap[b]? = some (.cells cs.toArray e fr) := (hs.swap (pickR_perm hp)).ok _ (List.mem_cons_self)
  simp [World.cell?, h1, (sliceO_spec hc).2 j u hj]) hw hn k
/-! stores into an owned block -/
theorem sy_st {x y : Operand} {b off e : Nat} {v : Value} {vs cs cs' : List Value} {H1 : List Res} (i : Nat) (hx : f.ev x = some (.pointer (some ⟨b, off, none⟩))) (hy : f.ev y = some v) (hv : cellsO v = some vs) (h1 : ones vs = true)
    (hz : ∀ w, (sizeOf t).run P w = .ok vs.length w) (hp : pickR i H = some (.blk b (.cells cs.toArray e (0, 0)), H1)) (hc : off + vs.length ≤ cs.length) (hc' : cs.take off ++ vs ++ cs.drop (off + vs.length) = cs')
    (hw : gok ops f g = some true) (k : Sy .txt P ops Q n D w0 M h0 rest f h (.blk b (.cells cs'.toArray e (0, 0)) :: H1)) : Sy .txt P ops Q n D w0 M h0 (⟨none, .store t x y, s, p, af, g⟩ :: rest) f h H :=
 sy_op hw fun a w ha hs => by
  have hs' := hs.swap (pickR_perm hp)
  have hb : w.heap[b]? = some (.cells cs.toArray e (0, 0)) := hs'.ok _ (List.mem_cons_self)
  have hst := run_storeCells_at P b off e vs 0 cs.toArray w hb (by simpa using hc) (ones_spec h1)
  simp only [Nat.add_zero] at hst
  have hcells := cellsO_spec hv
  have hrun : (execOp a.eval ⟨none, .store t x y, s, p, af, g⟩).run P w = .ok .skip (w.setRow b cs'.toArray) := by
   have h2 : v.cells.size = vs.length := by rw [hcells]; simp
   have h3 : v.cells.toList = vs := by rw [hcells]
   simp [execOp, ha.ev hx, ha.ev hy, Instr.storeAt, Instr.sureAddr, storeVar, hz, h2, h3, hst, hc']
  unfold Oper.wp
  rw [hrun]
  refine k a _ ha (hs'.write (o' := .cells cs'.toArray e (0, 0)) ⟨rfl, rfl, rfl, by simp [World.setRow], fun j hj hm => setRow_other w b j _ (by simpa using hm)⟩ (setRow_heap w b cs.toArray _ e _ hb))
def szB (P : Program) (t sz : Nat) : Bool := match P.info? t with | some inf => inf.size == sz | none => false
theorem sz_spec {P : Program} {t sz : Nat} (h : szB P t sz = true) (w : World) : (sizeOf t).run P w = .ok sz w := by
 unfold szB at h
 split at h
 · rename_i inf hi
   have : inf.size = sz := by simpa using h
   simp [sizeOf, typeInfo, hi, this]
 · cases h
theorem sy_stl {x y : Operand} {b off e sz : Nat} {v : Value} {vs cs cs' : List Value} {H1 : List Res} (i : Nat) (hz : szB P t sz = true) (hx : f.ev x = some (.pointer (some ⟨b, off, none⟩))) (hy : f.ev y = some v) (hv : cellsO v = some vs) (hvl : vs.length = sz) (h1 : ones vs = true)
    (hp : pickR i H = some (.blk b (.cells cs.toArray e (0, 0)), H1)) (hc : putO off vs cs = some cs')
    (hw : gok ops f g = some true) (k : Sy .txt P ops Q n D w0 M h0 rest f h (.blk b (.cells cs'.toArray e (0, 0)) :: H1)) : Sy .txt P ops Q n D w0 M h0 (⟨none, .store t x y, s, p, af, g⟩ :: rest) f h H :=
 sy_st i hx hy hv h1 (by rw [hvl]; exact sz_spec hz) hp (putO_spec hc).1 (putO_spec hc).2 hw k
theorem sy_stlH {E E1 : List Res} {x y : Operand} {b off e sz : Nat} {v : Value} {vs cs cs' : List Value} (i : Nat) (hl : loneB ops (ops.size - (rest.length + 1)) = true) (hz : szB P t sz = true) (hx : f.ev x = some (.pointer (some ⟨b, off, none⟩))) (hy : f.ev y = some v) (hv : cellsO v = some vs) (hvl : vs.length = sz) (h1 : ones vs = true)
    (hp : pickR i E = some (.blk b (.cells cs.toArray e (0, 0)), E1)) (hc : putO off vs cs = some cs')
    (hw : gok ops f g = some true) (k : Sy (.held (.blk b (.cells cs'.toArray e (0, 0)) :: E1)) P ops Q n D w0 M h0 rest f h H) : Sy (.held E) P ops Q n D w0 M h0 (⟨none, .store t x y, s, p, af, g⟩ :: rest) f h H :=
 sy_eff hl hw fun a w ha hs => by
  subst hvl
  have hs' : St w0 M h0 h (.blk b (.cells cs.toArray e (0, 0)) :: (E1 ++ H)) w := hs.swap ((pickR_perm hp).append_right H)
  have hb : w.heap[b]? = some (.cells cs.toArray e (0, 0)) := hs'.ok _ (List.mem_cons_self)
  have hc1 := (putO_spec hc).1
  have hst := run_storeCells_at P b off e vs 0 cs.toArray w hb (by simpa using hc1) (ones_spec h1)
  simp only [Nat.add_zero] at hst
  have hcells := cellsO_spec hv
  have hrun : (execOp a.eval ⟨none, .store t x y, s, p, af, g⟩).run P w = .ok .skip (w.setRow b cs'.toArray) := by
   have h2 : v.cells.size = vs.length := by rw [hcells]; simp
   have h3 : v.cells.toList = vs := by rw [hcells]
   simp [execOp, ha.ev hx, ha.ev hy, Instr.storeAt, Instr.sureAddr, storeVar, sz_spec hz, h2, h3, hst, (putO_spec hc).2]
  exact ⟨.skip, w.setRow b cs'.toArray, undef, .blk b (.cells cs'.toArray e (0, 0)) :: E1, f, hrun, .inr ⟨rfl, rfl⟩, ha, hs'.write (o' := .cells cs'.toArray e (0, 0)) ⟨rfl, rfl, rfl, by simp [World.setRow], fun j hj hm => setRow_other w b j _ (by simpa using hm)⟩ (setRow_heap w b cs.toArray _ e _ hb), k⟩
/-! new blocks -/
theorem zerL_spec {P : Program} {t : Nat} {zs : List Value} (h : zerL P t = some zs) (w : World) : ∃ z, (zeroValue t).run P w = .ok z w ∧ z.cells = zs.toArray := by
 unfold zerL at h
 split at h
 · rename_i i hi
   split at h
   · rename_i z hz
     exact ⟨z, by simp [zeroValue, typeInfo, hi, hz], cellsO_spec h⟩
   · cases h
 · cases h
theorem sy_alloc {zs : List Value} (hz : zerL P t = some zs) (hw : gok ops f g = some true) (hn : Nat.blt d n = true)
    (k : ∀ b, w0.heap.size ≤ b → b ∉ M → Sy .txt P ops Q n D w0 M h0 rest ((d, .pointer (some ⟨b, 0, none⟩)) :: f) h (.blk b (.cells zs.toArray t (0, 0)) :: H)) (hM : ∀ x ∈ M, x < w0.heap.size) :
    Sy .txt P ops Q n D w0 M h0 (⟨some d, .alloc t, s, p, af, g⟩ :: rest) f h H :=
 sy_op hw fun a w ha hs => by
  obtain ⟨z, h1, h2⟩ := zerL_spec hz w
  have hrun : (execOp a.eval ⟨some d, .alloc t, s, p, af, g⟩).run P w = .ok (.value (.pointer (some ⟨w.heap.size, 0, none⟩))) (w.alloc (.cells zs.toArray t)) := by
   simp [execOp, Instr.alloc, h1, newVar, newRow, h2]
  unfold Oper.wp
  rw [hrun]
  exact k w.heap.size hs.frm.size (fun hx => by have := hM _ hx; have := hs.frm.size; omega) _ _ (ha.put d _ hn) (hs.alloc _)
theorem sy_box {x : Operand} {v : Value} {cs : List Value} (hx : f.ev x = some v) (hv : cellsO v = some cs) (hw : gok ops f g = some true) (hn : Nat.blt d n = true)
    (k : ∀ b, w0.heap.size ≤ b → b ∉ M → Sy .txt P ops Q n D w0 M h0 rest ((d, .pointer (some ⟨b, 0, none⟩)) :: f) h (.blk b (.cells cs.toArray t (0, 0)) :: H)) (hM : ∀ x ∈ M, x < w0.heap.size) :
    Sy .txt P ops Q n D w0 M h0 (⟨some d, .box t x, s, p, af, g⟩ :: rest) f h H :=
 sy_op hw fun a w ha hs => by
  have h2 := cellsO_spec hv
  have hrun : (execOp a.eval ⟨some d, .box t x, s, p, af, g⟩).run P w = .ok (.value (.pointer (some ⟨w.heap.size, 0, none⟩))) (w.alloc (.cells cs.toArray t)) := by
   simp [execOp, Instr.box, ha.ev hx, newVar, newRow, h2]
  unfold Oper.wp
  rw [hrun]
  exact k w.heap.size hs.frm.size (fun hx => by have := hM _ hx; have := hs.frm.size; omega) _ _ (ha.put d _ hn) (hs.alloc _)
/-! structs, arrays and slices built -/
def partsO (f : Tab) : List (Nat × Operand) → Option (List (Nat × Value))
 | [] => some []
 | (i, x) :: r => match f.ev x with
  | some v => (match partsO f r with | some vs => some ((i, v) :: vs) | none => none)
  | none => none
theorem partsO_spec {D : List Deferred} {f : Tab} {a : Act} (ha : Holds n D f a) : ∀ {ps : List (Nat × Operand)} {vs : List (Nat × Value)}, partsO f ps = some vs → ps.map (fun q => (q.1, a.eval q.2)) = vs
 | [], vs, hx => by simpa [partsO] using hx
 | (i, x) :: r, vs, hx => by
  unfold partsO at hx
  split at hx
  · rename_i v hv
    split at hx
    · rename_i ws hws
      simp only [Option.some.injEq] at hx
      subst hx
      simp [ha.ev hv, partsO_spec ha hws]
    · cases hx
  · cases hx
theorem sy_build {ps : Array (Nat × Operand)} {vs : List (Nat × Value)} {v : Value} (hx : partsO f ps.toList = some vs) (hr : ∀ w, (Instr.build t vs.toArray).run P w = .ok v w) (hw : gok ops f g = some true) (hn : Nat.blt d n = true)
    (k : Sy m P ops Q n D w0 M h0 rest ((d, v) :: f) h H) : Sy m P ops Q n D w0 M h0 (⟨some d, .build t ps, s, p, af, g⟩ :: rest) f h H :=
 sy_val hw rfl hn (fun a w ha _ => by
  have h1 : (ps.map fun q => (q.1, a.eval q.2)) = vs.toArray := by
   rw [← partsO_spec ha hx]
   apply Array.ext'
   simp
  have h2 : (ps.map fun x => match x with | (i, x) => (i, a.eval x)) = vs.toArray := h1
  simp only [execOp, h2, Sem.run_bind, hr, Result.andThen_ok, Sem.run_pure]) k
theorem sy_buildSlice {ps : Array (Nat × Operand)} {vs : List (Nat × Value)} {cs : List Value} {e l : Nat} (hx : partsO f ps.toList = some vs)
    (hr : ∀ w, (Instr.buildSlice t l vs.toArray).run P w = .ok (.slice (some ⟨w.heap.size, 0, none⟩) l l) (w.alloc (.cells cs.toArray e))) (hw : gok ops f g = some true) (hn : Nat.blt d n = true)
    (k : ∀ b, w0.heap.size ≤ b → b ∉ M → Sy .txt P ops Q n D w0 M h0 rest ((d, .slice (some ⟨b, 0, none⟩) l l) :: f) h (.blk b (.cells cs.toArray e (0, 0)) :: H)) (hM : ∀ x ∈ M, x < w0.heap.size) :
    Sy .txt P ops Q n D w0 M h0 (⟨some d, .buildSlice t l ps, s, p, af, g⟩ :: rest) f h H :=
 sy_op hw fun a w ha hs => by
  have h1 : (ps.map fun q => (q.1, a.eval q.2)) = vs.toArray := by
   rw [← partsO_spec ha hx]
   apply Array.ext'
   simp
  have h2 : (ps.map fun x => match x with | (i, x) => (i, a.eval x)) = vs.toArray := h1
  have hrun : (execOp a.eval ⟨some d, .buildSlice t l ps, s, p, af, g⟩).run P w = .ok (.value (.slice (some ⟨w.heap.size, 0, none⟩) l l)) (w.alloc (.cells cs.toArray e)) := by
   simp only [execOp, h2, Sem.run_bind, hr, Result.andThen_ok, Sem.run_pure]
  unfold Oper.wp
  rw [hrun]
  exact k w.heap.size hs.frm.size (fun hx => by have := hM _ hx; have := hs.frm.size; omega) _ _ (ha.put d _ hn) (hs.alloc _)
/-! append of what lies in a block of one's own -/
def rowB (P : Program) (t e size bytes : Nat) : Bool :=
 (match P.underlying t with
 | some (.slice e') => e' == e
 | _ => false) && (match P.info? e with
 | some inf => inf.size == size && inf.bytes == bytes && (match inf.zero with | some z => z.cells.size == size | none => false)
 | none => false)
theorem row_spec {P : Program} {t e size bytes : Nat} (h : rowB P t e size bytes = true) : P.underlying t = some (.slice e) ∧ ∃ inf z, P.info? e = some inf ∧ inf.zero = some z ∧ inf.size = size ∧ inf.bytes = bytes ∧ z.cells.size = size := by
 unfold rowB at h
 rw [Bool.and_eq_true] at h
 obtain ⟨h1, h2⟩ := h
 constructor
 · split at h1
   · rename_i e' he
     have : e' = e := by simpa using h1
     rw [he, this]
   · cases h1
 · split at h2
   · rename_i inf hi
     rw [Bool.and_eq_true, Bool.and_eq_true] at h2
     obtain ⟨⟨h3, h4⟩, h5⟩ := h2
     split at h5
     · rename_i z hz
       exact ⟨inf, z, hi, hz, by simpa using h3, by simpa using h4, by simpa using h5⟩
     · cases h5
   · cases h2
theorem sy_append {x y : Operand} {v : Value} {e size bytes l mm c b : Nat} {xs cs news : List Value} {H1 : List Res} {e2 : Nat} {fr : Nat × Nat} {H2 : List Res} (i j : Nat) (hr : rowB P s e size bytes = true) (h0' : 0 < size)
    (hx : f.ev x = some v) (hp : pickR i H = some (.row v e size l xs, H1)) (hy : f.ev y = some (.slice (some ⟨b, 0, none⟩) mm c)) (hq : pickR j H = some (.blk b (.cells cs.toArray e2 fr), H2))
    (hnews : sliceO 0 (mm * size) cs = some news) (h1 : ones news = true) (hb : (l + mm) * bytes ≤ 140737488355328) (hlen : l + mm ≤ maxLen) (hw : gok ops f g = some true) (hn : Nat.blt d n = true)
    (k : ∀ v', Sy .txt P ops Q n D w0 M h0 rest ((d, v') :: f) h (.row v' e size (l + mm) (xs ++ news) :: H1)) :
    Sy .txt P ops Q n D w0 M h0 (⟨some d, .call ⟨.builtin .append, #[x, y], #[s, s]⟩, t, p, af, g⟩ :: rest) f h H :=
 sy_op hw fun a w ha hs => by
  obtain ⟨h2, inf, z, h3, h4, h5, h6, h7⟩ := row_spec hr
  have hs' := hs.swap (pickR_perm hp)
  have ho : w.ownsRow 0 e size v l xs := hs'.ok _ (List.mem_cons_self)
  have hbk : w.heap[b]? = some (.cells cs.toArray e2 fr) := (hs.swap (pickR_perm hq)).ok _ (List.mem_cons_self)
  obtain ⟨hl1, hl2⟩ := sliceO_spec hnews
  have hcell : ∀ jj u, news[jj]? = some u → w.cell? ((⟨b, 0, none⟩ : Addr).add jj) = some u := fun jj u hj => by
   rw [Addr.add_at]
   have := hl2 jj u hj
   simp only [Nat.zero_add] at this ⊢
   simp [World.cell?, hbk, this]
  obtain ⟨v', w', hrun, ho', hg, _, hat⟩ := run_append_own_at (P := P) w 0 s t e inf z size bytes h2 h3 h4 h5 h6 h7 h0' v l xs ho ⟨b, 0, none⟩ mm c news hl1 hcell (ones_spec h1) hlen hb (Nat.zero_le _)
  have hrun' : (execOp a.eval ⟨some d, .call ⟨.builtin .append, #[x, y], #[s, s]⟩, t, p, af, g⟩).run P w = .ok (.value v') w' := by
   simp only [execOp, resolve, invoke, builtin, Sem.run_bind, Sem.run_pure, Result.andThen_ok, List.map_toArray, List.map_cons, List.map_nil, ha.ev hx, ha.ev hy, hrun]
  unfold Oper.wp
  rw [hrun']
  refine k v' _ w' (ha.put d _ hn) (hs'.rowed hg ho' ?_)
  rcases hat with hat | hat
  · exact .inl hat
  · exact .inr (.inl ⟨_, hat, Nat.le_refl _⟩)
def arraB (P : Program) (s len e sz : Nat) : Bool :=
 (match P.underlying s with
 | some (.array l e') => l == len && e' == e
 | _ => false) && aggB P e sz
theorem arra_spec {P : Program} {s len e sz : Nat} (h : arraB P s len e sz = true) : P.underlying s = some (.array len e) ∧ aggB P e sz = true := by
 unfold arraB at h
 rw [Bool.and_eq_true] at h
 obtain ⟨h1, h2⟩ := h
 refine ⟨?_, h2⟩
 split at h1
 · rename_i l e' he
   rw [Bool.and_eq_true] at h1
   rw [he, eq_of_beq h1.1, eq_of_beq h1.2]
 · cases h1
theorem part_agg {P : Program} {e sz off : Nat} {cs vs : List Value} (h : aggB P e sz = true) (hc : sliceO off sz cs = some vs) (w : World) : (part e cs.toArray off).run P w = .ok (.agg vs.toArray) w := by
 obtain ⟨h1, h2⟩ := agg_spec h w
 obtain ⟨h6, h7⟩ := sliceO_spec hc
 have h8 : cs.toArray.extract off (off + sz) = vs.toArray := by
  apply Array.ext'
  simp only [Array.toList_extract, List.extract_eq_take_drop]
  apply List.ext_getElem?
  intro j
  rw [show off + sz - off = sz by omega, List.getElem?_take]
  by_cases hj : j < sz
  · rw [if_pos hj]
    have h9 : vs[j]? = some (vs[j]'(by omega)) := List.getElem?_eq_getElem (by omega)
    rw [h9]
    simpa using h7 j _ h9
  · rw [if_neg hj]
    simp
    omega
 unfold part
 simp only [Sem.run_bind, h1, h2, Result.andThen_ok, if_true, Sem.run_pure, h8]
theorem sy_idxarr {x y : Operand} {cs vs : List Value} {len e sz : Nat} {ik : IntKind} {i : Int} (hs : arraB P s len e sz = true) (hx : f.ev x = some (.agg cs.toArray)) (hy : f.ev y = some (.int ik i)) (h0' : 0 ≤ i) (h1 : i < len)
    (hc : sliceO (i.toNat * sz) sz cs = some vs) (hw : gok ops f g = some true) (hn : Nat.blt d n = true)
    (k : Sy m P ops Q n D w0 M h0 rest ((d, .agg vs.toArray) :: f) h H) : Sy m P ops Q n D w0 M h0 (⟨some d, .index s x y, t, p, af, g⟩ :: rest) f h H := by
 obtain ⟨h2, h3⟩ := arra_spec hs
 refine sy_val hw rfl hn (fun a w ha _ => ?_) k
 simp [execOp, ha.ev hx, ha.ev hy, Instr.index, asIntOf, run_underlying h2, h0', h1, (agg_spec h3 w).2, part_agg h3 hc]
end ops
end
end Go.Proofs.YtanhhihechakhaaDoor.E
set_option linter.unusedVariables false
set_option linter.unusedSimpArgs false
namespace Go.Proofs.YtanhhihechakhaaDoor.E
open Go.RowKit
/-! contracts -/
/-- it returns v, and leaves memory as it is but for what is new -/
def C0 (P : Program) (F : Nat) (vs : List Value) (h : Hp) (v : Value) : Prop := ∀ w, h.Sub w → Calls P F vs.toArray w fun e w' => e = .returned v ∧ Frm w [] w'
def CX {X : Type} (P : Program) (F : Nat) (vs : List Value) (h : Hp) (rv : X → Value) (Φ : X → Hp → Prop) : Prop :=
 ∀ w, h.Sub w → Calls P F vs.toArray w fun e w' => ∃ x h', e = .returned (rv x) ∧ Φ x h' ∧ Grow h w h' w'
def Hp.upd (h : Hp) (g : Nat) (o : Obj) : Hp := fun k => if k = g then some o else h k
theorem Hp.upd_same (h : Hp) (g : Nat) (o : Obj) : h.upd g o g = some o := by simp [Hp.upd]
theorem Hp.upd_sub {h : Hp} {g : Nat} {o : Obj} {w : World} (hs : h.Sub w) (hg : w.heap[g]? = some o) : (h.upd g o).Sub w := fun k o' hk => by
 by_cases e : k = g
 · subst e
   simp only [Hp.upd, if_true, Option.some.injEq] at hk
   subst hk
   exact hg
 · exact hs k o' (by simpa [Hp.upd, e] using hk)
def callB (P : Program) (F : Nat) : Bool := match P.funcs[F]? with
 | some fn => !(fn.name == "runtime.NumGoroutine") && fn.body.isSome
 | none => false
theorem call_spec {P : Program} {F : Nat} (h : callB P F = true) (args : Array Value) (w : World) : (callFunc F args).run P w = .ok (.enter F args) w := by
 unfold callB at h
 split at h
 · rename_i fn hf
   rw [Bool.and_eq_true] at h
   obtain ⟨h1, h2⟩ := h
   have h1' : ¬ fn.name = "runtime.NumGoroutine" := by simpa using h1
   have h2' : ¬ fn.body = none := by
    intro hb
    rw [hb] at h2
    cases h2
   simp [callFunc, hf, h1', h2']
 · cases h
section
variable {m : Md} {P : Program} {ops : Array Oper} {Q : Exit → Act → World → Prop} {n : Nat} {D : List Deferred} {w0 : World} {M : List Nat} {h0 : Hp}
variable {f : Tab} {h : Hp} {H : List Res} {rest : List Oper} {o : Oper}
section calls
variable {d t : Nat} {p : String} {af : Array Edge} {g : Option (Nat × Bool)} {F : Nat} {args : Array Operand} {tys : Array TypeId} {vs : List Value}
theorem run_callF {a : Act} {w : World} {dst : Option Nat} (hF : callB P F = true) (ha : Holds n D f a) (hx : f.evs args.toList = some vs) :
    (execOp a.eval ⟨dst, .call ⟨.value (.func F), args, tys⟩, t, p, af, g⟩).run P w = .ok (.enter F vs.toArray) w := by
 have h1 : args.map a.eval = vs.toArray := by
  rw [← ha.evs hx]
  apply Array.ext'
  simp
 simp only [execOp, resolve, h1, Act.eval, Deferred.ofValue, Sem.run_bind, Sem.run_pure, Result.andThen_ok, invoke, Array.empty_append, Array.append_empty, call_spec hF]
theorem sy_call {v : Value} (hm : m.plain = true) (hF : callB P F = true) (hx : f.evs args.toList = some vs) (hc : C0 P F vs h v) (hw : gok ops f g = some true) (hn : Nat.blt d n = true)
    (k : Sy m P ops Q n D w0 M h0 rest ((d, v) :: f) h H) : Sy m P ops Q n D w0 M h0 (⟨some d, .call ⟨.value (.func F), args, tys⟩, t, p, af, g⟩ :: rest) f h H :=
 sy_enter hm hw rfl hn (fun a w ha => run_callF hF ha hx) (fun w hs => hc w hs.sub) k
theorem sy_callx {X : Type} {rv : X → Value} {Φ : X → Hp → Prop} (hF : callB P F = true) (hx : f.evs args.toList = some vs) (hc : CX P F vs h rv Φ) (hw : gok ops f g = some true) (hn : Nat.blt d n = true)
    (k : ∀ x h', Φ x h' → h.Le h' → Sy .txt P ops Q n D w0 M h0 rest ((d, rv x) :: f) h' H) : Sy .txt P ops Q n D w0 M h0 (⟨some d, .call ⟨.value (.func F), args, tys⟩, t, p, af, g⟩ :: rest) f h H :=
 sy_op hw fun a w ha hs => by
  unfold Oper.wp
  rw [run_callF hF ha hx]
  refine (hc w hs.sub).mono fun e w' ⟨x, h', he, hΦ, hg⟩ => ?_
  subst he
  exact k x h' hΦ hg.le _ w' (ha.put d _ hn) (hs.grow' hg)
end calls
/-! code -/
theorem cy_seq {x y : Code} (k : Cy P x (Exit.then (y.wp P Q) Q) n D w0 M h0 f h H) : Cy P (.seq x y) Q n D w0 M h0 f h H := fun a w ha hs => wp_seq (k a w ha hs)
theorem cy_skip (k : Ny Q .normal n D w0 M h0 f h H) : Cy P .skip Q n D w0 M h0 f h H := fun a w ha hs => wp_skip (k a w ha hs)
theorem cy_label {l : Nat} (k : Ny Q .normal n D w0 M h0 f h H) : Cy P (.label l) Q n D w0 M h0 f h H := fun a w ha hs => wp_label (k a w ha hs)
theorem cy_ret (k : Ny Q .ret n D w0 M h0 f h H) : Cy P .ret Q n D w0 M h0 f h H := fun a w ha hs => wp_ret (k a w ha hs)
theorem cy_exit {i : Nat} (k : Ny Q (.exit i) n D w0 M h0 f h H) : Cy P (.exit i) Q n D w0 M h0 f h H := fun a w ha hs => wp_exit (k a w ha hs)
theorem cy_block {i : Nat} {c : Code} (k : Cy P c (Exit.inBlock i Q) n D w0 M h0 f h H) : Cy P (.block i c) Q n D w0 M h0 f h H := fun a w ha hs => wp_block (k a w ha hs)
theorem cy_region {i : Nat} {l : List Oper} (k : Sy .txt P l.toArray Q n D w0 M h0 l f h H) : Cy P (.region i l.toArray false) Q n D w0 M h0 f h H := fun a w ha hs => wp_region_list (show wpList P l.toArray Q l.toArray.toList a w from k a w ha hs)
theorem St.drawn {w : World} (hs : St w0 M h0 h H w) : St w0 M h0 h H { w with drawn := w.drawn + 1 } := hs.grow ⟨rfl, rfl, rfl, Nat.le_refl _, fun _ _ _ => rfl⟩
theorem cy_regionQ {i : Nat} {l : List Oper} (hm : P.follows .mixedOrders = true) (hB : Region.lexB .any l.toArray = true) (k : Sy .qui P l.toArray Q n D w0 M h0 l f h H) : Cy P (.region i l.toArray true) Q n D w0 M h0 f h H :=
 fun a w ha hs => wp_region_quiet (C := St w0 M h0 h H) hm hB hs.drawn (show wpQuiet P l.toArray (St w0 M h0 h H) _ l.toArray.toList a from k a w ha hs)
theorem cy_regionH {i : Nat} {l : List Oper} (hm : P.follows .mixedOrders = true) (hB : heldB l.toArray = true) (k : Sy (.held H) P l.toArray Q n D w0 M h0 l f h []) : Cy P (.region i l.toArray true) Q n D w0 M h0 f h H :=
 fun a w ha hs => by
  refine wp_region_noPanic (wp_region_held (S := St w0 M h0 h []) hm ?_)
  have h1 := k a _ ha (show St w0 M h0 h (H ++ []) _ by rw [List.append_nil]; exact hs.drawn) ⟨hB, Nat.le_refl _, by simp⟩
  simpa [lst] using h1
def splitO : Nat → List Oper → Option (List Oper × List Oper)
 | 0, l => some ([], l)
 | _ + 1, [] => none
 | n + 1, o :: l => match splitO n l with
  | some (a, b) => some (o :: a, b)
  | none => none
theorem splitO_spec : ∀ {n : Nat} {l l1 l2 : List Oper}, splitO n l = some (l1, l2) → l.take n = l1 ∧ l.drop n = l2
 | 0, l, l1, l2, h => by
  simp only [splitO, Option.some.injEq, Prod.mk.injEq] at h
  obtain ⟨rfl, rfl⟩ := h
  simp
 | n + 1, [], _, _, h => by simp [splitO] at h
 | n + 1, o :: l, l1, l2, h => by
  unfold splitO at h
  split at h
  · rename_i a b hab
    simp only [Option.some.injEq, Prod.mk.injEq] at h
    obtain ⟨rfl, rfl⟩ := h
    have := splitO_spec hab
    simp [this.1, this.2]
  · cases h
theorem cy_regionS {i : Nat} {l l1 l2 : List Oper} (N : Nat) (hm : P.follows .mixedOrders = true) (hB : Region.lexTailB .any l.toArray N = true) (hs : splitO N l = some (l1, l2)) (k : Sy (.still l2) P l.toArray Q n D w0 M h0 l1 f h H) : Cy P (.region i l.toArray true) Q n D w0 M h0 f h H :=
 fun a w ha hs' => by
  obtain ⟨rfl, rfl⟩ := splitO_spec hs
  exact wp_region_still_tail N hm hB (k a _ ha hs'.drawn)
theorem cy_scope {c : Code} (k : Cy P c (Exit.noGoto Q) n D w0 M h0 f h H) : Cy P (.scope c) Q n D w0 M h0 f h H := fun a w ha hs => wp_scope_straight (k a w ha hs)
theorem ny_scopeR (k : Ny Q .ret n D w0 M h0 f h H) : Ny (Exit.noGoto Q) .ret n D w0 M h0 f h H := k
theorem cy_condT {c : Operand} {x y : Code} (hc : f.ev c = some (.bool true)) (k : Cy P x Q n D w0 M h0 f h H) : Cy P (.cond c x y) Q n D w0 M h0 f h H := fun a w ha hs => wp_cond_true (ha.ev hc) (k a w ha hs)
theorem cy_condF {c : Operand} {x y : Code} (hc : f.ev c = some (.bool false)) (k : Cy P y Q n D w0 M h0 f h H) : Cy P (.cond c x y) Q n D w0 M h0 f h H := fun a w ha hs => wp_cond_false (ha.ev hc) (k a w ha hs)
theorem cy_cond {c : Operand} {x y : Code} {e : Bool} (hc : f.ev c = some (.bool e)) (kt : e = true → Cy P x Q n D w0 M h0 f h H) (kf : e = false → Cy P y Q n D w0 M h0 f h H) : Cy P (.cond c x y) Q n D w0 M h0 f h H := fun a w ha hs => by
 cases e with
 | true => exact wp_cond_true (ha.ev hc) (kt rfl a w ha hs)
 | false => exact wp_cond_false (ha.ev hc) (kf rfl a w ha hs)
theorem ny_next {y : Code} (k : Cy P y Q n D w0 M h0 f h H) : Ny (Exit.then (y.wp P Q) Q) .normal n D w0 M h0 f h H := k
theorem ny_thenE {K : Act → World → Prop} {i : Nat} (k : Ny Q (.exit i) n D w0 M h0 f h H) : Ny (Exit.then K Q) (.exit i) n D w0 M h0 f h H := k
theorem ny_thenR {K : Act → World → Prop} (k : Ny Q .ret n D w0 M h0 f h H) : Ny (Exit.then K Q) .ret n D w0 M h0 f h H := k
theorem ny_blockN {i : Nat} (k : Ny Q .normal n D w0 M h0 f h H) : Ny (Exit.inBlock i Q) .normal n D w0 M h0 f h H := k
theorem ny_blockR {i : Nat} (k : Ny Q .ret n D w0 M h0 f h H) : Ny (Exit.inBlock i Q) .ret n D w0 M h0 f h H := k
theorem ny_blockX {i : Nat} (k : Ny Q .normal n D w0 M h0 f h H) : Ny (Exit.inBlock i Q) (.exit i) n D w0 M h0 f h H := fun a w ha hs => by
 show (if i = i then Q .normal a w else Q (.exit i) a w)
 rw [if_pos rfl]
 exact k a w ha hs
theorem ny_blockY {i j : Nat} (hne : Nat.beq j i = false) (k : Ny Q (.exit j) n D w0 M h0 f h H) : Ny (Exit.inBlock i Q) (.exit j) n D w0 M h0 f h H := fun a w ha hs => by
 show (if j = i then Q .normal a w else Q (.exit j) a w)
 rw [if_neg (fun e => by subst e; simp [Nat.beq_refl] at hne)]
 exact k a w ha hs
theorem frzAll {w : World} : ∀ (H : List Res) (h : Hp), St w0 [] h0 h H w → ∃ h', h.Le h' ∧ (∀ g o, Res.blk g o ∈ H → h' g = some o) ∧ St w0 [] h0 h' [] w
 | [], h, hs => ⟨h, Hp.Le.refl h, fun _ _ hm => (List.not_mem_nil hm).elim, hs⟩
 | .row v e size l xs :: H, h, hs => by
  obtain ⟨h', h1, h2, h3⟩ := frzAll H h (hs.perm (List.sublist_cons_self _ _))
  exact ⟨h', h1, fun g o hm => h2 g o (by rcases List.mem_cons.1 hm with he | he; · cases he
                                          · exact he), h3⟩
 | .blk g o :: H, h, hs => by
  obtain ⟨hs1, hl1⟩ := hs.freeze (by simp)
  obtain ⟨h', h1, h2, h3⟩ := frzAll H _ hs1
  refine ⟨h', hl1.trans h1, fun g' o' hm => ?_, h3⟩
  rcases List.mem_cons.1 hm with he | he
  · injection he with he1 he2
    subst he1 he2
    exact h1 _ _ (by simp)
  · exact h2 g' o' he
theorem cy_frzAll {c : Code} (k : ∀ h', h.Le h' → (∀ g o, Res.blk g o ∈ H → h' g = some o) → Cy P c Q n D w0 [] h0 f h' []) : Cy P c Q n D w0 [] h0 f h H := fun a w ha hs => by
 obtain ⟨h', h1, h2, h3⟩ := frzAll H h hs
 exact k h' h1 h2 a w ha h3
theorem ny_frz {e : Exit} {g : Nat} {o' : Obj} {H1 : List Res} (i : Nat) (hp : pickR i H = some (.blk g o', H1)) (hM : g ∉ M) (k : ∀ h', h.Le h' → h' g = some o' → Ny Q e n D w0 M h0 f h' H1) : Ny Q e n D w0 M h0 f h H := fun a w ha hs => by
 obtain ⟨h', h1, h2, h3⟩ := frz i hp hM hs
 exact k h' h1 h2 a w ha h3
/-! a loop -/
/-- what a round hands on -/
def Round {ι : Type} (J : ι → Prop) (μ : ι → Nat) (F : ι → Tab) (G : ι → Hp) (R : ι → List Res) (n : Nat) (D : List Deferred) (w0 : World) (M : List Nat) (h0 : Hp) (i : ι) : Act → World → Prop :=
 fun a w => ∃ i', J i' ∧ μ i' < μ i ∧ Holds n D (F i') a ∧ St w0 M h0 (G i') (R i') w
theorem cy_loop {ι : Type} {c : Code} (J : ι → Prop) (μ : ι → Nat) (F : ι → Tab) (G : ι → Hp) (R : ι → List Res) (i0 : ι) (is : List Nat) (hJ : J i0) (hF : Tab.Le (F i0) f) (hG : G i0 = h) (hR : selR is H = some (R i0))
    (round : ∀ i, J i → Cy P c (Exit.then (Round J μ F G R n D w0 M h0 i) Q) n D w0 M h0 (F i) (G i) (R i)) : Cy P (.loop c) Q n D w0 M h0 f h H := by
 intro a w ha hs
 refine wp_loop_ghost (fun k a w => ∃ i, J i ∧ μ i = k ∧ Holds n D (F i) a ∧ St w0 M h0 (G i) (R i) w) (μ i0) ⟨i0, hJ, rfl, ha.weak hF, by rw [hG]; exact hs.sel hR⟩ ?_
 rintro k a w ⟨i, hi, rfl, ha, hs⟩
 refine wp_mono (round i hi a w ha hs) ?_
 intro e a' w' hq
 cases e with
 | normal =>
  obtain ⟨i', h1, h2, h3, h4⟩ := hq
  exact ⟨μ i', h2, i', h1, rfl, h3, h4⟩
 | exit id => exact hq
 | goto l => exact hq
 | ret => exact hq
 | panic ch => exact hq
 | outgrown => exact hq
theorem ny_round {ι : Type} {J : ι → Prop} {μ : ι → Nat} {F : ι → Tab} {G : ι → Hp} {R : ι → List Res} {i : ι} (i' : ι) (is : List Nat) (hJ : J i') (hμ : μ i' < μ i) (hF : Tab.Le (F i') f) (hG : G i' = h) (hR : selR is H = some (R i')) :
    Ny (Exit.then (Round J μ F G R n D w0 M h0 i) Q) .normal n D w0 M h0 f h H := fun a w ha hs => ⟨i', hJ, hμ, ha.weak hF, by rw [hG]; exact hs.sel hR⟩
/-! entry and return -/
def initO : Nat → List Value → Option Tab
 | _, [] => some []
 | i, v :: t => match initO (i + 1) t with
  | some f => some ((i, v) :: f)
  | none => none
theorem initO_get : ∀ {i : Nat} {vs : List Value} {f : Tab}, initO i vs = some f → ∀ j v, f.get j = some v → i ≤ j ∧ vs[j - i]? = some v
 | _, [], f, h, j, v, hj => by
  simp only [initO, Option.some.injEq] at h
  subst h
  simp [Tab.get] at hj
 | i, x :: t, f, h, j, v, hj => by
  unfold initO at h
  split at h
  · rename_i f' hf
    simp only [Option.some.injEq] at h
    subst h
    unfold Tab.get at hj
    cases hb : Nat.beq j i with
    | true =>
     rw [hb] at hj
     simp only [cond_true, Option.some.injEq] at hj
     have := Nat.eq_of_beq_eq_true hb
     subst this
     subst hj
     simp
    | false =>
     rw [hb] at hj
     obtain ⟨h1, h2⟩ := initO_get hf j v hj
     refine ⟨by omega, ?_⟩
     rw [show j - i = (j - (i + 1)) + 1 by omega, List.getElem?_cons_succ]
     exact h2
  · cases h
theorem enterM {F : Nat} {fn : Func} {c : Code} {vs : List Value} {R : Ending → World → Prop} (hf : P.funcs[F]? = some fn) (hb : fn.body = some c) (hi : initO 0 vs = some f) (hn : Nat.ble vs.length fn.ntmps = true)
    {w : World} (hs : St w M h0 h H w) (k : Cy P c (bodyPost P fn R) fn.ntmps [] w M h0 f h H) : Calls P F vs.toArray w R := by
 refine calls_of_wp hf hb (k _ w ⟨?_, rfl, fun i v hiv => ?_⟩ hs)
 · have := Nat.le_of_ble_eq_true hn
   simp
   omega
 · obtain ⟨_, h1⟩ := initO_get hi i v hiv
   have hlt := (List.getElem?_eq_some_iff.1 h1).1
   simp only [Nat.sub_zero] at h1 hlt
   rw [Array.getElem?_append_left (by simpa using hlt)]
   simpa using h1
theorem enter0 {F : Nat} {fn : Func} {c : Code} {vs : List Value} {v : Value} (hf : P.funcs[F]? = some fn) (hb : fn.body = some c) (hi : initO 0 vs = some f) (hn : Nat.ble vs.length fn.ntmps = true)
    (k : ∀ w, Cy P c (bodyPost P fn fun e w' => e = .returned v ∧ Frm w [] w') fn.ntmps [] w [] h f h []) : C0 P F vs h v := fun w hs => enterM hf hb hi hn (St.start hs []) (k w)
theorem enterX {X : Type} {rv : X → Value} {Φ : X → Hp → Prop} {F : Nat} {fn : Func} {c : Code} {vs : List Value} (hf : P.funcs[F]? = some fn) (hb : fn.body = some c) (hi : initO 0 vs = some f) (hn : Nat.ble vs.length fn.ntmps = true)
    (k : ∀ w, Cy P c (bodyPost P fn fun e w' => ∃ x h', e = .returned (rv x) ∧ Φ x h' ∧ Grow h w h' w') fn.ntmps [] w [] h f h []) : CX P F vs h rv Φ := fun w hs => enterM hf hb hi hn (St.start hs []) (k w)
theorem ny_fin {fn : Func} {R : Ending → World → Prop} {v : Value} (hres : ∀ a w, Holds n [] f a → St w0 M h0 h H w → (results fn a.tmps).run P w = .ok v w) (k : ∀ w, St w0 M h0 h H w → R (.returned v) w) : Ny (bodyPost P fn R) .normal n [] w0 M h0 f h H :=
 fun a w ha hs => ⟨ha.defers, v, hres a w ha hs, k w hs⟩
theorem ny_finR {fn : Func} {R : Ending → World → Prop} {v : Value} (hres : ∀ a w, Holds n [] f a → St w0 M h0 h H w → (results fn a.tmps).run P w = .ok v w) (k : ∀ w, St w0 M h0 h H w → R (.returned v) w) : Ny (bodyPost P fn R) .ret n [] w0 M h0 f h H :=
 fun a w ha hs => ⟨ha.defers, v, hres a w ha hs, k w hs⟩
theorem res1 {fn : Func} {t : Nat} {v : Value} (hr : fn.results = #[.tmp t]) (hv : f.get t = some v) : ∀ a w, Holds n [] f a → St w0 M h0 h H w → (results fn a.tmps).run P w = .ok v w := fun a w ha _ => by
 have := ha.get t v hv
 rw [results_tmp hr]
 simp [this]
theorem res0 {fn : Func} (hr : fn.results = #[]) : ∀ a w, Holds n [] f a → St w0 M h0 h H w → (results fn a.tmps).run P w = .ok (.tuple #[]) w := fun a w ha _ => results_none hr _ _ _
theorem res2 {fn : Func} {t u : Nat} {v v2 : Value} (hr : fn.results = #[.tmp t, .tmp u]) (hv : f.get t = some v) (hu : f.get u = some v2) : ∀ a w, Holds n [] f a → St w0 M h0 h H w → (results fn a.tmps).run P w = .ok (.tuple #[v, v2]) w := fun a w ha _ => by
 have h1 := ha.get t v hv
 have h2 := ha.get u v2 hu
 rw [results_tmp2 hr]
 simp [h1, h2]
theorem res3 {fn : Func} {t u x : Nat} {v v2 v3 : Value} (hr : fn.results = #[.tmp t, .tmp u, .tmp x]) (hv : f.get t = some v) (hu : f.get u = some v2) (hx : f.get x = some v3) : ∀ a w, Holds n [] f a → St w0 M h0 h H w → (results fn a.tmps).run P w = .ok (.tuple #[v, v2, v3]) w := fun a w ha _ => by
 have h1 := ha.get t v hv
 have h2 := ha.get u v2 hu
 have h3 := ha.get x v3 hx
 simp [results, hr, h1, h2, h3]
theorem res4 {fn : Func} {t u x y : Nat} {v v2 v3 v4 : Value} (hr : fn.results = #[.tmp t, .tmp u, .tmp x, .tmp y]) (hv : f.get t = some v) (hu : f.get u = some v2) (hx : f.get x = some v3) (hy : f.get y = some v4) :
    ∀ a w, Holds n [] f a → St w0 M h0 h H w → (results fn a.tmps).run P w = .ok (.tuple #[v, v2, v3, v4]) w := fun a w ha _ => by
 have h1 := ha.get t v hv
 have h2 := ha.get u v2 hu
 have h3 := ha.get x v3 hx
 have h4 := ha.get y v4 hy
 simp [results, hr, h1, h2, h3, h4]
theorem resc1 {fn : Func} {t u ty e l : Nat} {fr : Nat × Nat} {b : Nat} {cs vs : List Value} {v2 : Value} {H1 : List Res} (i : Nat) (hr : fn.results = #[.cell t ty, .tmp u]) (hty : aggB P ty l = true) (hv : f.get t = some (.pointer (some ⟨b, 0, none⟩))) (hu : f.get u = some v2)
    (hp : pickR i H = some (.blk b (.cells cs.toArray e fr), H1)) (hc : sliceO 0 l cs = some vs) :
    ∀ a w, Holds n [] f a → St w0 M h0 h H w → (results fn a.tmps).run P w = .ok (.tuple #[.agg vs.toArray, v2]) w := fun a w ha hs => by
 have h1 := ha.get t _ hv
 have h2 := ha.get u v2 hu
 have hb : w.heap[b]? = some (.cells cs.toArray e fr) := (hs.swap (pickR_perm hp)).ok _ (List.mem_cons_self)
 obtain ⟨h5, h6⟩ := agg_spec hty w
 obtain ⟨h7, h8⟩ := sliceO_spec hc
 subst h7
 have h3 := run_loadCells_list (P := P) w ⟨b, 0, none⟩ vs (fun j u hj => by
  rw [Addr.add_at]
  have := h8 j u hj
  simp only [Nat.zero_add] at this ⊢
  simp [World.cell?, hb, this])
 simp [results, hr, h1, h2, asAddr, loadVar, h5, h6, h3]
end
end Go.Proofs.YtanhhihechakhaaDoor.E
namespace Go.Proofs.YtanhhihechakhaaDoor.E
open Go.ChangeShapes Go.WideShapes Go.ChangeAt Go.RowKit
section
variable {H : Type} {enc : TypeId × Value → H} {P : Program}
theorem trodAll_below (hl : laidOutB P = true) {W W' : World} (hb : Below W.heap.size W W') : ∀ {ts : List TypeId} {vs : List Value} {ds : List (DataW H)} {ps : List MemPlace},
    (∀ t ∈ ts, P.readableRec t = true ∧ t < P.types.size) → DataW.TrodAll enc P W 0 (fun _ => true) true ts vs ds ps → (∀ x ∈ ps, x.block < W.heap.size) → DataW.TrodAll enc P W' 0 (fun b => decide (b < W.heap.size)) true ts vs ds ps
 | [], [], [], _, _, h, _ => h
 | _ :: _, _ :: _, _ :: _, _, hT, ⟨p, q, h1, h2, e⟩, hs => ⟨p, q, Below.trod hl (hT _ (List.mem_cons_self)).1 (hT _ (List.mem_cons_self)).2 h1 hb (fun x hx => hs x (by rw [e]; exact List.mem_append_left _ hx)),
     trodAll_below hl hb (fun t ht => hT t (List.mem_cons_of_mem _ ht)) h2 (fun x hx => hs x (by rw [e]; exact List.mem_append_right _ hx)), e⟩
def paramsB (P : Program) (ts : List TypeId) : Bool := laidOutB P && ts.all fun t => P.readableRec t && decide (t < P.types.size)
theorem law_post {f : Func} {s : ChangeSpec} {W W' : World} {args : Array Value} {ds : List (DataW H)} {before : List MemPlace} {tb : TypeId}
    (hp : paramsB P f.params.toList = true) (hrt : f.resultTypes.toList = [tb]) (hbool : P.underlying tb = some .bool) (hvars : s.vars = []) (hres : (s.fn H ds).results = [.lit (.bool true)]) (hargs : (s.fn H ds).args = ds) (hv : (s.fn H ds).vars = [])
    (hW : DataW.Whole enc P f.params.toList s.vars false W args.toList ds [] before) (hb : Below W.heap.size W W') : s.post enc P f false true false false W args (.bool true) W' := by
 have hlt : ∀ p ∈ before, p.block < W.heap.size := fun p hp => hW.lt p hp
 have hW0 := hW
 obtain ⟨p, q, hA, hV, hpq, _, _⟩ := hW0
 rw [hvars] at hV
 obtain ⟨_, rfl⟩ := trodVars_none hV
 have hpq' : before = p := by simpa using hpq
 subst hpq'
 unfold paramsB at hp
 rw [Bool.and_eq_true] at hp
 have hA' := trodAll_below hp.1 hb (fun t ht => by simpa using List.all_eq_true.1 hp.2 t ht) hA hlt
 have hsz : f.resultTypes.size = 1 := by rw [← Array.length_toList, hrt]; rfl
 refine ⟨ds, [], before, [], before, [], hW, ?_, ?_, ?_, World.keptBut_mono (fun p hp => ⟨hp, ?_⟩) (hb.frame (· ∈ before)), fun h => by cases h⟩
 · rw [List.append_nil, hres, hrt, hsz]
   exact trodAll_cons_mk (shut_bool hbool _) trodAll_mk0
 · rw [List.append_nil, hargs]
   exact hA'
 · rw [List.append_nil, hv, hvars]
   rfl
 · exact Or.inr (by simpa using hp)
end
theorem u8_of_wf {a : Int} (h : (Lit.int .u8 a).wf = true) : ∃ c : UInt8, a = (c.toNat : Int) := by
 have hx : 0 ≤ a ∧ a ≤ 255 := by simpa [Lit.wf, IntKind.min, IntKind.max, IntKind.signed, IntKind.bits] using h
 refine ⟨UInt8.ofNat a.toNat, ?_⟩
 have : a.toNat < 256 := by omega
 rw [UInt8.toNat_ofNat_of_lt' (by simpa using this)]
 omega
end Go.Proofs.YtanhhihechakhaaDoor.E
set_option linter.unusedVariables false
set_option linter.unusedSimpArgs false
namespace Go.Proofs.YtanhhihechakhaaDoor.E
open Go.RowKit
section
variable {m : Md} {P : Program} {ops : Array Oper} {Q : Exit → Act → World → Prop} {n : Nat} {D : List Deferred} {w0 : World} {M : List Nat} {h0 : Hp}
variable {f : Tab} {h : Hp} {H : List Res} {rest : List Oper} {o : Oper}
section ops
variable {d t s : Nat} {p : String} {af : Array Edge} {g : Option (Nat × Bool)}
theorem sy_max {x y : Operand} {ik : IntKind} {a b : Int} {s1 s2 : Nat} (hx : f.ev x = some (.int ik a)) (hy : f.ev y = some (.int ik b)) (hw : gok ops f g = some true) (hn : Nat.blt d n = true)
    (k : Sy m P ops Q n D w0 M h0 rest ((d, .int ik (if b > a then b else a)) :: f) h H) : Sy m P ops Q n D w0 M h0 (⟨some d, .call ⟨.builtin .max, #[x, y], #[s1, s2]⟩, t, p, af, g⟩ :: rest) f h H :=
 sy_val hw rfl hn (fun a w ha _ => by simp only [execOp, resolve, invoke, builtin, Sem.run_bind, Sem.run_pure, Result.andThen_ok, List.map_toArray, List.map_cons, List.map_nil, ha.ev hx, ha.ev hy, run_max_int2]) k
/-! a slice cut at its end -/
theorem sy_cutTo {x y : Operand} {A : Option Addr} {l c e k0 : Nat} {sz : Nat} {ik : IntKind} (hs : elsB P s e sz = true) (hx : f.ev x = some (.slice A l c)) (hy : f.ev y = some (.int ik (k0 : Int))) (hk : k0 ≤ c) (hw : gok ops f g = some true) (hn : Nat.blt d n = true)
    (k : Sy m P ops Q n D w0 M h0 rest ((d, .slice A k0 c) :: f) h H) : Sy m P ops Q n D w0 M h0 (⟨some d, .slice s x none (some y) none, t, p, af, g⟩ :: rest) f h H := by
 obtain ⟨h2, inf, h3, h4⟩ := els_spec hs
 refine sy_val hw rfl hn (fun a w ha _ => ?_) k
 have h0 : Option.map (fun x => Addr.add x 0) A = A := by
  cases A with
  | none => rfl
  | some ad => simp [Addr.add]
 have h5 : (0 : Int) ≤ (k0 : Int) ∧ (k0 : Int) ≤ (c : Int) := by omega
 simp [execOp, ha.ev hx, ha.ev hy, Instr.sliceAt, Instr.slice, Instr.sliceBounds, Instr.sliceBound, asIntOf, run_underlying h2, sizeOf, typeInfo, h3, hk, h0]
/-! an owned block as a row -/
theorem St.asRow {b e l sz : Nat} {cs : List Value} {H1 : List Res} {w : World} (hs : St w0 M h0 h (.blk b (.cells cs.toArray e (0, 0)) :: H1) w) (hl : cs.length = l * sz) (hm : l ≤ maxLen) : St w0 M h0 h (.row (.slice (some ⟨b, 0, none⟩) l l) e sz l cs :: H1) w :=
 { hs with
  ok := fun r hr => by
   rcases List.mem_cons.1 hr with rfl | hr
   · exact ⟨hl, .inr ⟨b, l, cs.toArray, rfl, Nat.zero_le _, hs.ok _ (List.mem_cons_self), Nat.le_refl _, hm, by simpa using hl, by simp [← hl]⟩⟩
   · exact hs.ok r (List.mem_cons_of_mem _ hr)
  own := fun r hr k hk => by
   rcases List.mem_cons.1 hr with rfl | hr
   · exact hs.own (.blk b (.cells cs.toArray e (0, 0))) (List.mem_cons_self) k hk
   · exact hs.own r (List.mem_cons_of_mem _ hr) k hk
  dis := List.Pairwise.cons (fun r hr k hk => (List.pairwise_cons.1 hs.dis).1 r hr k hk) (List.pairwise_cons.1 hs.dis).2 }
theorem sy_asRow {b e l sz : Nat} {cs : List Value} {H1 : List Res} (i : Nat) (hp : pickR i H = some (.blk b (.cells cs.toArray e (0, 0)), H1)) (hl : cs.length = l * sz) (hm : l ≤ maxLen) (k : Sy .txt P ops Q n D w0 M h0 rest f h (.row (.slice (some ⟨b, 0, none⟩) l l) e sz l cs :: H1)) :
    Sy .txt P ops Q n D w0 M h0 rest f h H := fun a w ha hs => k a w ha ((hs.swap (pickR_perm hp)).asRow hl hm)
theorem sy_frzRow {v : Value} {e size l : Nat} {xs : List Value} {H1 : List Res} (i : Nat) (hp : pickR i H = some (.row v e size l xs, H1)) (hM : ∀ g, v.ownBlock = some g → g ∉ M)
    (k : ∀ A c h', v = .slice A l c → l ≤ c → c ≤ maxLen → xs.length = l * size → h.Le h' → (∀ j u, xs[j]? = some u → ∃ g, A = some ⟨g, 0, none⟩ ∧ h'.cell ⟨g, j, none⟩ = some u) → Sy .txt P ops Q n D w0 M h0 rest f h' H1) :
    Sy .txt P ops Q n D w0 M h0 rest f h H := fun a w ha hs => by
 obtain ⟨A, c, h', h1, h2, h3, h4, h5, h6, _, h7⟩ := frzRow i hp hM hs
 exact k A c h' h1 h2 h3 h4 h5 h6 a w ha h7
theorem cy_frzRow {cd : Code} {v : Value} {e size l : Nat} {xs : List Value} {H1 : List Res} (i : Nat) (hp : pickR i H = some (.row v e size l xs, H1)) (hM : ∀ g, v.ownBlock = some g → g ∉ M)
    (k : ∀ A c h', v = .slice A l c → l ≤ c → c ≤ maxLen → xs.length = l * size → h.Le h' → (∀ j u, xs[j]? = some u → ∃ g, A = some ⟨g, 0, none⟩ ∧ h'.cell ⟨g, j, none⟩ = some u) → Cy P cd Q n D w0 M h0 f h' H1) :
    Cy P cd Q n D w0 M h0 f h H := fun a w ha hs => by
 obtain ⟨A, c, h', h1, h2, h3, h4, h5, h6, _, h7⟩ := frzRow i hp hM hs
 exact k A c h' h1 h2 h3 h4 h5 h6 a w ha h7
theorem sy_appendh {x y : Operand} {v : Value} {e size bytes l mm c : Nat} {A : Option Addr} {xs news : List Value} {H1 : List Res} (i : Nat) (hr : rowB P s e size bytes = true) (h0' : 0 < size)
    (hx : f.ev x = some v) (hp : pickR i H = some (.row v e size l xs, H1)) (hy : f.ev y = some (.slice A mm c)) (hA : A = none → mm = 0)
    (hl : news.length = mm * size) (hnews : ∀ j u, news[j]? = some u → ∃ ad : Addr, A = some ad ∧ h.cell (ad.add j) = some u) (h1 : ∀ u ∈ news, u.oneCell' = true) (hb : (l + mm) * bytes ≤ 140737488355328) (hlen : l + mm ≤ maxLen) (hw : gok ops f g = some true) (hn : Nat.blt d n = true)
    (k : ∀ v', Sy .txt P ops Q n D w0 M h0 rest ((d, v') :: f) h (.row v' e size (l + mm) (xs ++ news) :: H1)) :
    Sy .txt P ops Q n D w0 M h0 (⟨some d, .call ⟨.builtin .append, #[x, y], #[s, s]⟩, t, p, af, g⟩ :: rest) f h H :=
 sy_op hw fun a w ha hs => by
  obtain ⟨h2, inf, z, h3, h4, h5, h6, h7⟩ := row_spec hr
  have hs' := hs.swap (pickR_perm hp)
  have ho : w.ownsRow 0 e size v l xs := hs'.ok _ (List.mem_cons_self)
  cases A with
  | none =>
   have hm0 := hA rfl
   subst hm0
   have hn0 : news = [] := List.eq_nil_of_length_eq_zero (by simpa using hl)
   subst hn0
   have hrun : (execOp a.eval ⟨some d, .call ⟨.builtin .append, #[x, y], #[s, s]⟩, t, p, af, g⟩).run P w = .ok (.value v) w := by
    simp only [execOp, resolve, invoke, builtin, Sem.run_bind, Sem.run_pure, Result.andThen_ok, List.map_toArray, List.map_cons, List.map_nil, ha.ev hx, ha.ev hy]
    rcases ho.2 with ⟨rfl, _⟩ | ⟨gg, cap, cur, rfl, _, _, hnc, _⟩
    · simp [Builtin.append_, run_underlying h2, h3, sizeOf, typeInfo, Builtin.firstCells, Builtin.lenOf]
    · simp [Builtin.append_, run_underlying h2, h3, sizeOf, typeInfo, Builtin.firstCells, Builtin.lenOf, hnc, storeCells]
   unfold Oper.wp
   rw [hrun]
   refine k v _ w (ha.put d _ hn) ?_
   rw [Nat.add_zero, List.append_nil]
   exact hs'
  | some ad =>
   have hcell : ∀ jj u, news[jj]? = some u → w.cell? (ad.add jj) = some u := fun jj u hj => by
    obtain ⟨ad', he, hc⟩ := hnews jj u hj
    injection he with he
    subst he
    exact hs.sub.cell hc
   obtain ⟨v', w', hrun, ho', hg, _, hat⟩ := run_append_own_at (P := P) w 0 s t e inf z size bytes h2 h3 h4 h5 h6 h7 h0' v l xs ho ad mm c news hl hcell h1 hlen hb (Nat.zero_le _)
   have hrun' : (execOp a.eval ⟨some d, .call ⟨.builtin .append, #[x, y], #[s, s]⟩, t, p, af, g⟩).run P w = .ok (.value v') w' := by
    simp only [execOp, resolve, invoke, builtin, Sem.run_bind, Sem.run_pure, Result.andThen_ok, List.map_toArray, List.map_cons, List.map_nil, ha.ev hx, ha.ev hy, hrun]
   unfold Oper.wp
   rw [hrun']
   refine k v' _ w' (ha.put d _ hn) (hs'.rowed hg ho' ?_)
   rcases hat with hat | hat
   · exact .inl hat
   · exact .inr (.inl ⟨_, hat, Nat.le_refl _⟩)
end ops
end
end Go.Proofs.YtanhhihechakhaaDoor.E
set_option linter.unusedVariables false
set_option linter.unusedSimpArgs false
namespace Go.Proofs.YtanhhihechakhaaDoor.E
open Go.RowKit
def SubP (L H : List Res) : Prop := ∃ H', H.Perm H' ∧ L.Sublist H'
theorem SubP.perm {L H : List Res} (h : H.Perm L) : SubP L H := ⟨L, h, List.Sublist.refl _⟩
end Go.Proofs.YtanhhihechakhaaDoor.E
set_option linter.unusedVariables false
set_option linter.unusedSimpArgs false
namespace Go.Proofs.YtanhhihechakhaaDoor.E
open Go.RowKit
def RowsAt (h : Hp) (A : Option Addr) (sz : Nat) (cs : List (List Value)) : Prop :=
 ∀ j c, cs[j]? = some c → ∃ g off, A = some ⟨g, off, none⟩ ∧ ∀ jj u, c[jj]? = some u → h.cell ⟨g, off + j * sz + jj, none⟩ = some u
theorem RowsAt.take {h : Hp} {A : Option Addr} {sz : Nat} {cs : List (List Value)} (hp : RowsAt h A sz cs) (k : Nat) : RowsAt h A sz (cs.take k) := fun j x hj => by
 rw [List.getElem?_take] at hj
 split at hj
 · exact hp j x hj
 · cases hj
theorem RowsAt.le {h h' : Hp} {A : Option Addr} {sz : Nat} {cs : List (List Value)} (hp : RowsAt h A sz cs) (hl : h.Le h') : RowsAt h' A sz cs := fun j x hj => by
 obtain ⟨g, off, h1, h2⟩ := hp j x hj
 exact ⟨g, off, h1, fun jj u hu => hl.cell (h2 jj u hu)⟩
theorem RowsAt.get {h : Hp} {g off sz : Nat} {cs : List (List Value)} (hp : RowsAt h (some ⟨g, off, none⟩) sz cs) {j : Nat} {c : List Value} (hj : cs[j]? = some c) :
    ∀ jj v, c[jj]? = some v → h.cell ⟨g, off + ((j : Int)).toNat * sz + jj, none⟩ = some v := fun jj v hv => by
 obtain ⟨g', off', h1, h2⟩ := hp j c hj
 injection h1 with h1
 injection h1 with h1 h1'
 subst h1 h1'
 rw [Int.toNat_natCast]
 exact h2 jj v hv
theorem RowsAt.none {h : Hp} {A : Option Addr} {sz : Nat} {cs : List (List Value)} (hp : RowsAt h A sz cs) (hA : A = none) : cs.length = 0 := by
 cases cs with
 | nil => rfl
 | cons x p =>
  obtain ⟨g, off, h1, _⟩ := hp 0 x rfl
  rw [hA] at h1
  cases h1
theorem flat_len {sz : Nat} : ∀ {cs : List (List Value)}, (∀ c ∈ cs, c.length = sz) → cs.flatten.length = cs.length * sz
 | [], _ => by simp
 | c :: cs, h => by
  rw [List.flatten_cons, List.length_append, h c (List.mem_cons_self), flat_len (fun c' hc' => h c' (List.mem_cons_of_mem _ hc')), List.length_cons, Nat.succ_mul]
  omega
theorem flat_get {sz : Nat} : ∀ {cs : List (List Value)}, (∀ c ∈ cs, c.length = sz) → ∀ {j : Nat} {c : List Value}, cs[j]? = some c → ∀ jj, jj < sz → cs.flatten[j * sz + jj]? = c[jj]?
 | [], _, j, c, h, _, _ => by simp at h
 | c0 :: cs, hs, 0, c, h, jj, hjj => by
  simp only [List.getElem?_cons_zero, Option.some.injEq] at h
  subst h
  rw [List.flatten_cons, Nat.zero_mul, Nat.zero_add, List.getElem?_append_left (by rw [hs _ (List.mem_cons_self)]; exact hjj)]
 | c0 :: cs, hs, j + 1, c, h, jj, hjj => by
  simp only [List.getElem?_cons_succ] at h
  have hl := hs c0 (List.mem_cons_self)
  rw [List.flatten_cons, List.getElem?_append_right (by rw [hl, Nat.succ_mul]; omega), hl, show (j + 1) * sz + jj - sz = j * sz + jj by rw [Nat.succ_mul]; omega]
  exact flat_get (fun c' hc' => hs c' (List.mem_cons_of_mem _ hc')) h jj hjj
theorem RowsAt.cells {h : Hp} {A : Option Addr} {sz : Nat} {cs : List (List Value)} (hsz : 0 < sz) (hs : ∀ c ∈ cs, c.length = sz) (hp : RowsAt h A sz cs) : ∀ j u, cs.flatten[j]? = some u → ∃ ad : Addr, A = some ad ∧ h.cell (ad.add j) = some u := fun j u hj => by
 have hlt : j < cs.length * sz := by
  have := (List.getElem?_eq_some_iff.1 hj).1
  rwa [flat_len hs] at this
 have hd : j / sz < cs.length := Nat.div_lt_of_lt_mul (by rw [Nat.mul_comm]; exact hlt)
 have hm : j % sz < sz := Nat.mod_lt _ hsz
 have e : j / sz * sz + j % sz = j := by rw [Nat.mul_comm]; exact Nat.div_add_mod j sz
 have hc : cs[j / sz]? = some (cs[j / sz]) := List.getElem?_eq_getElem hd
 have h1 := flat_get hs hc (j % sz) hm
 rw [e, hj] at h1
 obtain ⟨g, off, h3, h4⟩ := hp _ _ hc
 refine ⟨_, h3, ?_⟩
 rw [Addr.add_at]
 have := h4 (j % sz) u h1.symm
 rwa [Nat.add_assoc, e] at this
theorem rows_row {h : Hp} {A : Option Addr} {sz : Nat} {cs : List (List Value)} (hsz : 0 < sz) (hs : ∀ c ∈ cs, c.length = sz) (hc : ∀ j u, cs.flatten[j]? = some u → ∃ g, A = some ⟨g, 0, none⟩ ∧ h.cell ⟨g, j, none⟩ = some u) : RowsAt h A sz cs := fun j c hj => by
 have hl := hs c (List.mem_of_getElem? hj)
 have key : ∀ jj u, c[jj]? = some u → ∃ g, A = some ⟨g, 0, none⟩ ∧ h.cell ⟨g, j * sz + jj, none⟩ = some u := fun jj u hu => by
  have hjj : jj < sz := by have := (List.getElem?_eq_some_iff.1 hu).1; omega
  exact hc _ _ ((flat_get hs hj jj hjj).trans hu)
 have h0 : c[0]? = some (c[0]'(by omega)) := List.getElem?_eq_getElem _
 obtain ⟨g, h1, _⟩ := key 0 _ h0
 refine ⟨g, 0, h1, fun jj u hu => ?_⟩
 obtain ⟨g', h2, h3⟩ := key jj u hu
 rw [h1] at h2
 injection h2 with h2
 injection h2 with h2
 subst h2
 simpa using h3
theorem rows_blk {h : Hp} {g e sz : Nat} {fr : Nat × Nat} {cs : List (List Value)} (hsz : 0 < sz) (hs : ∀ c ∈ cs, c.length = sz) (hg : h g = some (.cells cs.flatten.toArray e fr)) : RowsAt h (some ⟨g, 0, none⟩) sz cs :=
 rows_row hsz hs fun j u hj => ⟨g, rfl, by simp [Hp.cell, hg, hj]⟩
section
variable {m : Md} {P : Program} {ops : Array Oper} {Q : Exit → Act → World → Prop} {n : Nat} {D : List Deferred} {w0 : World} {M : List Nat} {h0 : Hp}
variable {f : Tab} {h : Hp} {H : List Res} {rest : List Oper} {o : Oper}
section ops
variable {d t s : Nat} {p : String} {af : Array Edge} {g : Option (Nat × Bool)}
theorem map_evs {D : List Deferred} {f : Tab} {a : Act} (ha : Holds n D f a) {xs : Array Operand} {vs : List Value} (hx : f.evs xs.toList = some vs) : xs.map a.eval = vs.toArray := by
 rw [← ha.evs hx]
 apply Array.ext'
 simp
theorem sy_makeFunc {F : Nat} {xs : Array Operand} {vs : List Value} (hx : f.evs xs.toList = some vs) (hw : gok ops f g = some true) (hn : Nat.blt d n = true)
    (k : Sy m P ops Q n D w0 M h0 rest ((d, .func (.func F) #[] vs.toArray) :: f) h H) : Sy m P ops Q n D w0 M h0 (⟨some d, .makeFunc (.func F) #[] xs, t, p, af, g⟩ :: rest) f h H :=
 sy_val hw rfl hn (fun a w ha _ => by
  have h1 := map_evs ha hx
  simp [execOp, Instr.makeFunc, h1]) k
theorem run_callV {a : Act} {w : World} {dst : Option Nat} {fv : Operand} {F : Nat} {args : Array Operand} {tys : Array TypeId} {vs caps : List Value} (hF : callB P F = true) (ha : Holds n D f a) (hf : f.ev fv = some (.func (.func F) #[] caps.toArray)) (hx : f.evs args.toList = some vs) :
    (execOp a.eval ⟨dst, .call ⟨.value fv, args, tys⟩, t, p, af, g⟩).run P w = .ok (.enter F (vs ++ caps).toArray) w := by
 have h1 := map_evs ha hx
 have h2 : (vs ++ caps).toArray = vs.toArray ++ caps.toArray := by simp
 rw [h2]
 simp only [execOp, resolve, h1, ha.ev hf, Deferred.ofValue, Sem.run_bind, Sem.run_pure, Result.andThen_ok, invoke, Array.empty_append, call_spec hF]
theorem sy_callv {fv : Operand} {F : Nat} {args : Array Operand} {tys : Array TypeId} {vs caps : List Value} {v : Value} (hm : m.plain = true) (hF : callB P F = true) (hf : f.ev fv = some (.func (.func F) #[] caps.toArray)) (hx : f.evs args.toList = some vs) (hc : C0 P F (vs ++ caps) h v) (hw : gok ops f g = some true) (hn : Nat.blt d n = true)
    (k : Sy m P ops Q n D w0 M h0 rest ((d, v) :: f) h H) : Sy m P ops Q n D w0 M h0 (⟨some d, .call ⟨.value fv, args, tys⟩, t, p, af, g⟩ :: rest) f h H :=
 sy_enter hm hw rfl hn (fun a w ha => run_callV hF ha hf hx) (fun w hs => hc w hs.sub) k
theorem sy_iface {x : Operand} {v : Value} {d0 : TypeDesc} (hs : P.underlying s = some d0) (hni : (match d0 with | .interface _ => false | _ => true) = true) (hx : f.ev x = some v) (hw : gok ops f g = some true) (hn : Nat.blt d n = true)
    (k : Sy m P ops Q n D w0 M h0 rest ((d, .iface s v) :: f) h H) : Sy m P ops Q n D w0 M h0 (⟨some d, .makeInterface s x, t, p, af, g⟩ :: rest) f h H :=
 sy_val hw rfl hn (fun a w ha _ => by
  cases d0 <;> first | (simp at hni; done) | simp [execOp, Instr.makeInterface, run_underlying hs, ha.ev hx]) k
end ops
end
end Go.Proofs.YtanhhihechakhaaDoor.E
set_option linter.unusedVariables false
set_option linter.unusedSimpArgs false
namespace Go.Proofs.YtanhhihechakhaaDoor.E
open Go.RowKit
def keepO : List Nat → Tab → Option Tab
 | [], _ => some []
 | k :: ks, f => match f.get k with
  | some v => (match keepO ks f with | some t => some ((k, v) :: t) | none => none)
  | none => none
theorem keepO_get : ∀ {ks : List Nat} {f t : Tab}, keepO ks f = some t → ∀ i v, t.get i = some v → f.get i = some v
 | [], f, t, h, i, v, hi => by
  simp only [keepO, Option.some.injEq] at h
  subst h
  simp [Tab.get] at hi
 | k :: ks, f, t, h, i, v, hi => by
  unfold keepO at h
  split at h
  · rename_i u hu
    split at h
    · rename_i t' ht
      simp only [Option.some.injEq] at h
      subst h
      unfold Tab.get at hi
      cases hb : Nat.beq i k with
      | true =>
       rw [hb] at hi
       simp only [cond_true, Option.some.injEq] at hi
       have := Nat.eq_of_beq_eq_true hb
       subst this
       subst hi
       exact hu
      | false =>
       rw [hb] at hi
       exact keepO_get ht i v hi
    · cases h
  · cases h
theorem appTab_get : ∀ {a b f : Tab}, (∀ i v, a.get i = some v → f.get i = some v) → (∀ i v, b.get i = some v → f.get i = some v) → ∀ i v, Tab.get (a ++ b) i = some v → f.get i = some v
 | [], b, f, _, hb, i, v, hi => hb i v hi
 | (k, u) :: a, b, f, ha, hb, i, v, hi => by
  rw [List.cons_append] at hi
  unfold Tab.get at hi
  cases hq : Nat.beq i k with
  | true =>
   rw [hq] at hi
   refine ha i v ?_
   unfold Tab.get
   rw [hq]
   exact hi
  | false =>
   rw [hq] at hi
   by_cases hx : ∃ x, Tab.get ((k, u) :: a) i = some x
   · obtain ⟨x, hx⟩ := hx
     have hx2 : Tab.get a i = some x := by
      unfold Tab.get at hx
      rw [hq] at hx
      exact hx
     have h1 := ha i x hx
     have h2 : ∀ (a : Tab), Tab.get a i = some x → Tab.get (a ++ b) i = some x := fun a => by
      induction a with
      | nil => intro h; simp [Tab.get] at h
      | cons y t ih =>
       obtain ⟨k', u'⟩ := y
       intro h
       rw [List.cons_append]
       unfold Tab.get at h ⊢
       cases hq' : Nat.beq i k' with
       | true => rw [hq'] at h; exact h
       | false => rw [hq'] at h; exact ih h
     have h3 := h2 a hx2
     have h4 : Tab.get (a ++ b) i = some v := hi
     rw [h3] at h4
     rw [← h4]
     exact h1
   · have h2 : ∀ (a : Tab), Tab.get a i = none → Tab.get (a ++ b) i = Tab.get b i := fun a => by
      induction a with
      | nil => intro _; rfl
      | cons y t ih =>
       obtain ⟨k', u'⟩ := y
       intro h
       rw [List.cons_append]
       unfold Tab.get at h
       conv => lhs; unfold Tab.get
       cases hq' : Nat.beq i k' with
       | true => rw [hq'] at h; cases h
       | false => rw [hq'] at h; exact ih h
     have hn : Tab.get a i = none := by
      cases hy : Tab.get a i with
      | none => rfl
      | some y =>
       refine absurd ⟨y, ?_⟩ hx
       unfold Tab.get
       rw [hq]
       exact hy
     have h4 : Tab.get (a ++ b) i = some v := hi
     rw [h2 a hn] at h4
     exact hb i v h4
theorem Holds.weakG {n : Nat} {D : List Deferred} {f f' : Tab} {a : Act} (h : Holds n D f a) (hl : ∀ i v, f'.get i = some v → f.get i = some v) : Holds n D f' a := ⟨h.size, h.defers, fun i v hi => h.get i v (hl i v hi)⟩
section
variable {m : Md} {P : Program} {ops : Array Oper} {Q : Exit → Act → World → Prop} {n : Nat} {D : List Deferred} {w0 : World} {M : List Nat} {h0 : Hp}
variable {f : Tab} {h : Hp} {H : List Res} {rest : List Oper} {o : Oper}
theorem cy_loopK {ι : Type} {c : Code} {base : Tab} (ks : List Nat) (hk : keepO ks f = some base) (J : ι → Prop) (μ : ι → Nat) (F : ι → Tab) (G : ι → Hp) (R : ι → List Res) (i0 : ι) (is : List Nat) (hJ : J i0) (hF : Tab.Le (F i0) f) (hG : G i0 = h) (hR : selR is H = some (R i0))
    (round : ∀ i, J i → Cy P c (Exit.then (Round J μ (fun i => F i ++ base) G R n D w0 M h0 i) Q) n D w0 M h0 (F i ++ base) (G i) (R i)) : Cy P (.loop c) Q n D w0 M h0 f h H := by
 intro a w ha hs
 refine wp_loop_ghost (fun k a w => ∃ i, J i ∧ μ i = k ∧ Holds n D (F i ++ base) a ∧ St w0 M h0 (G i) (R i) w) (μ i0) ⟨i0, hJ, rfl, ha.weakG (appTab_get hF.get (keepO_get hk)), by rw [hG]; exact hs.sel hR⟩ ?_
 rintro k a w ⟨i, hi, rfl, ha, hs⟩
 refine wp_mono (round i hi a w ha hs) ?_
 intro e a' w' hq
 cases e with
 | normal =>
  obtain ⟨i', h1, h2, h3, h4⟩ := hq
  exact ⟨μ i', h2, i', h1, rfl, h3, h4⟩
 | exit id => exact hq
 | goto l => exact hq
 | ret => exact hq
 | panic ch => exact hq
 | outgrown => exact hq
theorem ny_roundK {ι : Type} {J : ι → Prop} {μ : ι → Nat} {F : ι → Tab} {base : Tab} {G : ι → Hp} {R : ι → List Res} {i : ι} (ks : List Nat) (i' : ι) (is : List Nat) (hJ : J i') (hμ : μ i' < μ i) (hk : keepO ks f = some base) (hF : Tab.Le (F i') f) (hG : G i' = h) (hR : selR is H = some (R i')) :
    Ny (Exit.then (Round J μ (fun i => F i ++ base) G R n D w0 M h0 i) Q) .normal n D w0 M h0 f h H := fun a w ha hs => ⟨i', hJ, hμ, ha.weakG (appTab_get hF.get (keepO_get hk)), by rw [hG]; exact hs.sel hR⟩
end
section
variable {m : Md} {P : Program} {ops : Array Oper} {Q : Exit → Act → World → Prop} {n : Nat} {D : List Deferred} {w0 : World} {M : List Nat} {h0 : Hp}
variable {f : Tab} {h : Hp} {H : List Res} {rest : List Oper} {o : Oper} {d t s : Nat} {p : String} {af : Array Edge} {g : Option (Nat × Bool)}
theorem sy_idxR {α : Type} {fc : α → List Value} {es : List α} {x y : Operand} {A : Option Addr} {len cap e sz i : Nat} {ik : IntKind} (hs : elsB P s e sz = true) (hx : f.ev x = some (.slice A len cap)) (hy : f.ev y = some (.int ik (i : Int))) (hp : RowsAt h A sz (es.map fc)) (hlen : es.length = len) (hi : i < len)
    (hw : gok ops f g = some true) (hn : Nat.blt d n = true)
    (k : ∀ e b off, es[i]? = some e → A = some ⟨b, off, none⟩ → (∀ jj v, (fc e)[jj]? = some v → h.cell ⟨b, off + i * sz + jj, none⟩ = some v) → Sy m P ops Q n D w0 M h0 rest ((d, .pointer (some ⟨b, off + i * sz, none⟩)) :: f) h H) :
    Sy m P ops Q n D w0 M h0 (⟨some d, .indexAddr s x y, t, p, af, g⟩ :: rest) f h H := by
 have he : es[i]? = some (es[i]'(by omega)) := List.getElem?_eq_getElem (by omega)
 have hc : (es.map fc)[i]? = some (fc (es[i]'(by omega))) := by rw [List.getElem?_map, he]; rfl
 obtain ⟨b, off, rfl, h2⟩ := hp i _ hc
 have := k _ b off he rfl h2
 exact sy_idxS (i := (i : Int)) hs hx hy (by omega) (by omega) hw hn this
end
end Go.Proofs.YtanhhihechakhaaDoor.E
set_option linter.unusedVariables false
set_option linter.unusedSimpArgs false
namespace Go.Proofs.YtanhhihechakhaaDoor.E
open Go.RowKit
def lsA (n : Nat) : List Nat → Array Bool
 | [] => Array.replicate n false
 | i :: done => (lsA n done).setIfInBounds i true
def freeB (ops : Array Oper) (done : List Nat) (i : Nat) : Bool := Region.noSelect ops && (Region.free .any ops (lsA ops.size done) i && (Region.ready .any ops (lsA ops.size done)).contains i)
def readyB (ops : Array Oper) (done rs : List Nat) : Bool := decide (Region.ready .any ops (lsA ops.size done) = rs)
structure Base (w0 : World) (h0 hC h : Hp) : Prop where
 l0 : h0.Le hC
 old : ∀ k, k < w0.heap.size → hC k = h0 k
 le : hC.Le h
section
variable {m : Md} {P : Program} {ops : Array Oper} {Q : Exit → Act → World → Prop} {n : Nat} {D : List Deferred} {w0 : World} {M : List Nat} {h0 hC : Hp}
variable {f : Tab} {h : Hp} {H : List Res} {rest : List Oper} {o : Oper} {cnt : Nat} {done : List Nat}
theorem St.class {w : World} (hs : St w0 M h0 h H w) (hB : Base w0 h0 hC h) : St w0 M h0 hC [] w :=
 { frm := hs.frm, sub := fun k o hk => hs.sub k o (hB.le k o hk), le := hB.l0, old := hB.old, ok := fun _ hr => (List.not_mem_nil hr).elim, own := fun _ hr => (List.not_mem_nil hr).elim, dis := List.Pairwise.nil }
def Zy (P : Program) (ops : Array Oper) (Q : Exit → Act → World → Prop) (n : Nat) (D : List Deferred) (w0 : World) (M : List Nat) (h0 hC : Hp) (cnt : Nat) (done : List Nat) (f : Tab) (h : Hp) (H : List Res) : Prop :=
 Base w0 h0 hC h → ∀ a w, Holds n D f a → St w0 M h0 h H w → wpAnyH P .any ops (NoPanic Q) (St w0 M h0 hC []) cnt (lsA ops.size done) a w
def QO (P : Program) (ops : Array Oper) (Q : Exit → Act → World → Prop) (w0 : World) (M : List Nat) (h0 hC : Hp) (cnt : Nat) (done : List Nat) (h : Hp) (H : List Res) : Exit → Act → World → Prop :=
 fun _ a _ => ∀ w, St w0 M h0 h H w → wpAnyH P .any ops (NoPanic Q) (St w0 M h0 hC []) cnt (lsA ops.size done) a w
def QZ (P : Program) (ops : Array Oper) (Q : Exit → Act → World → Prop) (w0 : World) (M : List Nat) (h0 hC : Hp) (cnt : Nat) (done : List Nat) : Exit → Act → World → Prop
 | .normal, a, w => St w0 M h0 hC [] w ∧ wpAnyH P .any ops (NoPanic Q) (St w0 M h0 hC []) cnt (lsA ops.size done) a w
 | e, a, w => NoPanic Q e a w
theorem cy_regionA {i : Nat} {l : List Oper} (hm : P.follows .mixedOrders = true) (k : Zy P l.toArray Q n D w0 M h0 h l.toArray.size [] f h H) : Cy P (.region i l.toArray true) Q n D w0 M h0 f h H :=
 fun a w ha hs => wp_region_noPanic (wp_region_held (S := St w0 M h0 h []) hm (k ⟨hs.le, hs.old, Hp.Le.refl _⟩ a _ ha hs.drawn))
theorem zy_done (hr : readyB ops done [] = true) (k : Ny Q .normal n D w0 M h0 f h H) : Zy P ops Q n D w0 M h0 hC cnt done f h H := fun hB a w ha hs =>
 wpAnyH_done (of_decide_eq_true hr) (NoPanic.normal (k a w ha hs)) _
theorem zy_q (i : Nat) (ho : ops[i]? = some o) (hf : freeB ops done i = true) (k : Base w0 h0 hC h → Sy .one P ops (QO P ops Q w0 M h0 hC cnt (i :: done) h H) n D w0 M h0 [o] f hC []) : Zy P ops Q n D w0 M h0 hC (cnt + 1) done f h H := fun hB a w ha hs => by
 unfold freeB at hf
 rw [Bool.and_eq_true, Bool.and_eq_true] at hf
 obtain ⟨v, hy, h1⟩ := k hB a w ha (hs.class hB)
 exact wpAnyH_take ho hf.1 hf.2.1 hf.2.2 (fun c a w hq => hq.elim) hy (hs.class hB) (h1 w (hs.class hB) w hs)
theorem ny_zq (hB : Base w0 h0 hC h) (k : Zy P ops Q n D w0 M h0 hC cnt done f h H) : Ny (QO P ops Q w0 M h0 hC cnt done h H) .normal n D w0 M h0 f hC [] := fun a w ha hs w' hs' => k hB a w' ha hs'
def Zop (P : Program) (ops : Array Oper) (Q : Exit → Act → World → Prop) (n : Nat) (D : List Deferred) (w0 : World) (M : List Nat) (h0 hC : Hp) (cnt : Nat) (done : List Nat) (f : Tab) (h : Hp) (H : List Res) (i : Nat) : Prop :=
 Base w0 h0 hC h → ∀ a w, Holds n D f a → St w0 M h0 h H w → wpOp P ops (NoPanic Q) i (fun a' w' => St w0 M h0 hC [] w' ∧ wpAnyH P .any ops (NoPanic Q) (St w0 M h0 hC []) cnt (lsA ops.size (i :: done)) a' w') a w
theorem zy_1 (i : Nat) (hr : readyB ops done [i] = true) (k : Zop P ops Q n D w0 M h0 hC cnt done f h H i) : Zy P ops Q n D w0 M h0 hC (cnt + 1) done f h H := fun hB a w ha hs =>
 wpAnyH_all (of_decide_eq_true hr) (by simp) (fun j hj => by
  simp only [List.mem_singleton] at hj
  subst hj
  exact k hB a w ha hs)
theorem zop_run {i : Nat} (ho : ops[i]? = some o) (hw : gok ops f o.guard = some true) (k : Base w0 h0 hC h → Sy .txt P ops (QZ P ops Q w0 M h0 hC cnt (i :: done)) n D w0 M h0 [o] f h H) : Zop P ops Q n D w0 M h0 hC cnt done f h H i := fun hB a w ha hs => by
 have h1 := k hB a w ha hs
 unfold Wk wpList at h1
 rw [if_pos (gok_wanted ha hw)] at h1
 unfold wpOp
 simp only [ho]
 rw [if_pos (gok_wanted ha hw)]
 have hex : ∀ e a w, e ≠ .normal → QZ P ops Q w0 M h0 hC cnt (i :: done) e a w → NoPanic Q e a w := fun e a w he hq => by
  cases e with
  | normal => exact absurd rfl he
  | exit id => exact hq
  | goto l => exact hq
  | ret => exact hq
  | panic ch => exact hq
  | outgrown => exact hq
 have hlet : LetsOut (QZ P ops Q w0 M h0 hC cnt (i :: done)) → LetsOut (NoPanic Q) := fun ⟨a, w, hq⟩ => ⟨a, w, hq⟩
 rcases h1 with h1 | h1
 · refine .inl ?_
   unfold Oper.wp at h1 ⊢
   generalize (execOp a.eval o).run P w = r at h1 ⊢
   cases r with
   | ok n w' =>
    cases n <;> simp only [Oper.upon] at h1 ⊢ <;>
     first
      | exact h1
      | exact Calls.mono h1 (fun e w'' he => by cases e <;> first | exact hlet he | exact he)
      | exact Rows.mono h1 (fun _ _ he => he)
   | halt x w' => cases x <;> simp only [Oper.upon] at h1 ⊢ <;> exact h1
 · exact .inr ⟨h1.1, hlet h1.2⟩
theorem ny_zy {h' : Hp} {f' : Tab} {H' : List Res} (hB : Base w0 h0 hC h) (hle : h.Le h') (k : Zy P ops Q n D w0 M h0 hC cnt done f' h' H') : Ny (QZ P ops Q w0 M h0 hC cnt done) .normal n D w0 M h0 f' h' H' := fun a w ha hs => by
 have hB' : Base w0 h0 hC h' := ⟨hB.l0, hB.old, hB.le.trans hle⟩
 exact ⟨hs.class hB', k hB' a w ha hs⟩
theorem Hp.blk {b e : Nat} {fr : Nat × Nat} {cs : List Value} (hb : h b = some (.cells cs.toArray e fr)) : ∀ (j : Nat) (u : Value), cs[j]? = some u → h.cell ⟨b, 0 + j, none⟩ = some u := fun j u hj => by
 simp [Hp.cell, hb, hj]
end
end Go.Proofs.YtanhhihechakhaaDoor.E
set_option linter.unusedVariables false
set_option linter.unusedSimpArgs false
namespace Go.Proofs.YtanhhihechakhaaDoor.E
open Go.RowKit
def byteC (u : UInt8) : List Value := [.int .u8 (u.toNat : Int)]
theorem byteC_len (l : List UInt8) : ∀ c ∈ l.map byteC, c.length = 1 := fun c hc => by
 obtain ⟨u, _, rfl⟩ := List.mem_map.1 hc
 rfl
theorem byteC_flat (l : List UInt8) : (l.map byteC).flatten = l.map fun u => Value.int .u8 (u.toNat : Int) := by
 induction l with
 | nil => rfl
 | cons u l ih => simp [byteC, ih]
def nilB : Value → Option Bool
 | .nilIface => some true
 | .iface _ _ => some false
 | _ => none
section
variable {m : Md} {P : Program} {ops : Array Oper} {Q : Exit → Act → World → Prop} {n : Nat} {D : List Deferred} {w0 : World} {M : List Nat} {h0 : Hp}
variable {f : Tab} {h : Hp} {H : List Res} {rest : List Oper} {o : Oper}
section ops
variable {d t s : Nat} {p : String} {af : Array Edge} {g : Option (Nat × Bool)}
theorem sy_strbytes {x : Operand} {bs : ByteArray} {e s2 : Nat} (hs : P.underlying s = some .string) (ht : P.underlying s2 = some (.slice e)) (he : P.underlying e = some (.int .u8)) (hx : f.ev x = some (.string bs)) (hw : gok ops f g = some true) (hn : Nat.blt d n = true)
    (k : ∀ b c h', h.Le h' → RowsAt h' (some ⟨b, 0, none⟩) 1 (bs.data.toList.map byteC) → Sy .txt P ops Q n D w0 M h0 rest ((d, .slice (some ⟨b, 0, none⟩) bs.size c) :: f) h' H) (hM : ∀ x ∈ M, x < w0.heap.size) :
    Sy .txt P ops Q n D w0 M h0 (⟨some d, .convert s s2 x, t, p, af, g⟩ :: rest) f h H :=
 sy_op hw fun a w ha hs' => by
  have hrun := run_bytes_of_string w s s2 e bs hs ht he
  have hrun' : (execOp a.eval ⟨some d, .convert s s2 x, t, p, af, g⟩).run P w = .ok (.value (.slice (some ⟨w.heap.size, 0, none⟩) bs.size (grownCap w bs.size 0 e)))
      (w.drew.alloc (.cells (bytesRow bs (grownCap w bs.size 0 e)) e ((bytesRow bs (grownCap w bs.size 0 e)).size, (bytesRow bs (grownCap w bs.size 0 e)).size + 1))) := by
   simp only [execOp, ha.ev hx, Sem.run_bind, hrun, Result.andThen_ok, Sem.run_pure]
  unfold Oper.wp
  rw [hrun']
  have hd : St w0 M h0 h H w.drew := hs'.grow ⟨rfl, rfl, rfl, Nat.le_refl _, fun _ _ _ => rfl⟩
  have h1 := hd.alloc (.cells (bytesRow bs (grownCap w bs.size 0 e)) e ((bytesRow bs (grownCap w bs.size 0 e)).size, (bytesRow bs (grownCap w bs.size 0 e)).size + 1))
  have hsz : w.drew.heap.size = w.heap.size := rfl
  rw [hsz] at h1
  have hMb : w.heap.size ∉ M := fun hx => by have := hM _ hx; have := hs'.frm.size; omega
  obtain ⟨h2, h3⟩ := h1.freeze hMb
  refine k w.heap.size _ _ h3 ?_ _ _ (ha.put d _ hn) h2
  intro j c hj
  rw [List.getElem?_map, Option.map_eq_some_iff] at hj
  obtain ⟨u, hu, rfl⟩ := hj
  refine ⟨w.heap.size, 0, rfl, fun jj v hv => ?_⟩
  have hjj : jj = 0 := by
   have := (List.getElem?_eq_some_iff.1 hv).1
   simp only [byteC, List.length_cons, List.length_nil] at this
   omega
  subst hjj
  have hjl : j < bs.data.size := by
   have := (List.getElem?_eq_some_iff.1 hu).1
   simpa using this
  have hue : bs.data[j] = u := by
   have := (List.getElem?_eq_some_iff.1 hu).2
   simpa using this
  simp only [byteC, List.getElem?_cons_zero, Option.some.injEq] at hv
  subst hv
  have h4 := bytesRow_at bs (grownCap w bs.size 0 e) j hjl
  simp only [Hp.cell, if_true, Nat.zero_add, Nat.mul_one, Nat.add_zero, Option.isSome_none, Bool.false_eq_true, if_false, h4, hue]
theorem sy_bytesh {x : Operand} {A : Option Addr} {l c e s2 : Nat} {bs : List UInt8} (hs : P.underlying s = some (.slice e)) (he : P.underlying e = some (.int .u8)) (ht : P.underlying s2 = some .string) (hx : f.ev x = some (.slice A l c)) (hp : RowsAt h A 1 (bs.map byteC)) (hl : bs.length = l)
    (hw : gok ops f g = some true) (hn : Nat.blt d n = true) (k : Sy m P ops Q n D w0 M h0 rest ((d, .string ⟨bs.toArray⟩) :: f) h H) : Sy m P ops Q n D w0 M h0 (⟨some d, .convert s s2 x, t, p, af, g⟩ :: rest) f h H :=
 sy_val hw rfl hn (fun a w ha hs' => by
  have hrun : (convert s s2 (.slice A l c)).run P w = .ok (.string ⟨bs.toArray⟩) w := by
   cases A with
   | none =>
    have h0 := hp.none rfl
    rw [List.length_map] at h0
    have h1 : bs = [] := List.eq_nil_of_length_eq_zero h0
    subst h1
    simp only [List.length_nil] at hl
    subst hl
    rw [run_convert_bytes_string w s s2 e none 0 c hs he ht]
    simp [Conv.bytesToString]
    rfl
   | some ad =>
    subst hl
    refine run_convert_bytes_back w s s2 e ad c bs hs he ht fun j hj => ?_
    obtain ⟨ad', h3, h4⟩ := hp.cells (by decide) (byteC_len bs) j (.int .u8 (bs[j].toNat : Int)) (by rw [byteC_flat, List.getElem?_map, List.getElem?_eq_getElem hj]; rfl)
    injection h3 with h3
    subst h3
    exact hs'.sub.cell h4
  simp only [execOp, ha.ev hx, Sem.run_bind, hrun, Result.andThen_ok, Sem.run_pure]) k
theorem sy_byte1 {x : Operand} {b c e e2 s2 : Nat} {z : Int} {u : UInt8} {fr : Nat × Nat} {H1 : List Res} (i : Nat) (hs : P.underlying s = some (.slice e)) (he : P.underlying e = some (.int .u8)) (ht : P.underlying s2 = some .string) (hx : f.ev x = some (.slice (some ⟨b, 0, none⟩) 1 c)) (hp : pickR i H = some (.blk b (.cells [.int .u8 z].toArray e2 fr), H1)) (hz : z = (u.toNat : Int))
    (hw : gok ops f g = some true) (hn : Nat.blt d n = true) (k : Sy m P ops Q n D w0 M h0 rest ((d, .string ⟨#[u]⟩) :: f) h H) : Sy m P ops Q n D w0 M h0 (⟨some d, .convert s s2 x, t, p, af, g⟩ :: rest) f h H :=
 sy_val hw rfl hn (fun a w ha hs' => by
  have hb : w.heap[b]? = some (.cells [.int .u8 z].toArray e2 fr) := (hs'.swap (pickR_perm hp)).ok _ (List.mem_cons_self)
  have hrun : (convert s s2 (.slice (some ⟨b, 0, none⟩) 1 c)).run P w = .ok (.string ⟨#[u]⟩) w := by
   refine run_convert_bytes_back w s s2 e ⟨b, 0, none⟩ c [u] hs he ht fun j hj => ?_
   have hj0 : j = 0 := by simp at hj; omega
   subst hj0
   rw [Addr.add_at]
   simp [World.cell?, hb, hz]
  simp only [execOp, ha.ev hx, Sem.run_bind, hrun, Result.andThen_ok, Sem.run_pure]) k
theorem sy_eqn {op : BinOp} {x : Operand} {v : Value} {ms : Array (String × TypeId)} {e b : Bool} {s2 : Nat} (hs : P.underlying s = some (.interface ms)) (hx : f.ev x = some v) (he : nilB v = some e)
    (hb : match op with | .eql => b = e | .neq => b = !e | _ => False) (hw : gok ops f g = some true) (hn : Nat.blt d n = true)
    (k : Sy m P ops Q n D w0 M h0 rest ((d, .bool b) :: f) h H) : Sy m P ops Q n D w0 M h0 (⟨some d, .binOp op s x (.const .nilIface) s2, t, p, af, g⟩ :: rest) f h H := by
 refine sy_val hw rfl hn (fun a w ha _ => ?_) k
 have heq : ∀ dd, (Op.equalIn (dd + 1) s v .nilIface).run P w = .ok e w := fun dd => by
  cases v <;> simp only [nilB, Option.some.injEq] at he <;> first | (cases he; done) | (subst he; simp [Op.equalIn, run_underlying hs])
 have heq2 : (Op.equal s v .nilIface).run P w = .ok e w := heq 9999
 have hg : ∀ op, (eqGuard op s x (.const .nilIface) v .nilIface).run P w = .ok () w := fun op => by
  cases v <;> simp only [nilB] at he <;> first | (cases he; done) | (cases op <;> simp [eqGuard])
 have hc : a.eval (.const .nilIface) = .nilIface := rfl
 cases op <;> simp only at hb <;> first | exact hb.elim | skip
 · subst hb
   cases v <;> simp only [nilB] at he <;> first | (cases he; done) | simp [execOp, ha.ev hx, hc, hg, binOp, heq2]
 · subst hb
   cases v <;> simp only [nilB] at he <;> first | (cases he; done) | simp [execOp, ha.ev hx, hc, hg, binOp, heq2]
end ops
end
end Go.Proofs.YtanhhihechakhaaDoor.E
set_option linter.unusedVariables false
set_option linter.unusedSimpArgs false
namespace Go.Proofs.YtanhhihechakhaaDoor.E
open Go.RowKit
def CXM {X : Type} (P : Program) (F : Nat) (vs : List Value) (h : Hp) (g : Nat) (o : Obj) (rv : X → Value) (Φ : X → Hp → Obj → Prop) : Prop :=
 ∀ w, h.Sub w → h g = none → w.heap[g]? = some o → Calls P F vs.toArray w fun e w' => ∃ x h' o', e = .returned (rv x) ∧ Φ x h' o' ∧ Frm w [g] w' ∧ h'.Sub w' ∧ h.Le h' ∧ (∀ k, k < w.heap.size → h' k = h k) ∧ w'.heap[g]? = some o'
section
variable {m : Md} {P : Program} {ops : Array Oper} {Q : Exit → Act → World → Prop} {n : Nat} {D : List Deferred} {w0 : World} {M : List Nat} {h0 : Hp}
variable {f : Tab} {h : Hp} {H : List Res} {rest : List Oper} {o : Oper}
theorem St.turned {w w' : World} {g : Nat} {ob ob' : Obj} {H1 : List Res} {h' : Hp} (s : St w0 M h0 h (.blk g ob :: H1) w) (hf : Frm w [g] w') (hsub : h'.Sub w') (hle : h.Le h') (hold : ∀ k, k < w.heap.size → h' k = h k) (hg : w'.heap[g]? = some ob') : St w0 M h0 h' (.blk g ob' :: H1) w' := by
 have s' := s.write hf hg
 refine { frm := s'.frm, sub := hsub, le := s'.le.trans hle, old := fun k hk => (hold k (Nat.lt_of_lt_of_le hk s.frm.size)).trans (s.old k hk), ok := s'.ok, own := ?_, dis := s'.dis }
 intro r hr k hk
 have h1 := s'.own r hr k hk
 have hlt : k < w.heap.size := by
  rcases List.mem_cons.1 hr with rfl | hr'
  · simp only [Res.key, Option.some.injEq] at hk
    subst hk
    exact (Array.getElem?_eq_some_iff.1 (show w.heap[g]? = some ob from s.ok _ (List.mem_cons_self))).1
  · exact Res.Ok.lt (s.ok r (List.mem_cons_of_mem _ hr')) hk
 exact ⟨(hold k hlt).trans h1.1, h1.2⟩
section calls
variable {d t : Nat} {p : String} {af : Array Edge} {g : Option (Nat × Bool)} {F : Nat} {args : Array Operand} {tys : Array TypeId} {vs : List Value}
theorem sy_callxm {X : Type} {rv : X → Value} {b : Nat} {ob : Obj} {H1 : List Res} {Φ : X → Hp → Obj → Prop} (i : Nat) (hF : callB P F = true) (hx : f.evs args.toList = some vs) (hp : pickR i H = some (.blk b ob, H1)) (hc : CXM P F vs h b ob rv Φ) (hw : gok ops f g = some true) (hn : Nat.blt d n = true)
    (k : ∀ x h' o', Φ x h' o' → h.Le h' → Sy .txt P ops Q n D w0 M h0 rest ((d, rv x) :: f) h' (.blk b o' :: H1)) : Sy .txt P ops Q n D w0 M h0 (⟨some d, .call ⟨.value (.func F), args, tys⟩, t, p, af, g⟩ :: rest) f h H :=
 sy_op hw fun a w ha hs => by
  have hs' := hs.swap (pickR_perm hp)
  unfold Oper.wp
  rw [run_callF hF ha hx]
  refine (hc w hs.sub (hs'.own _ (List.mem_cons_self) b rfl).1 (hs'.ok _ (List.mem_cons_self))).mono fun e w' ⟨x, h', o', he, hΦ, hf, hsub, hle, hold, hg⟩ => ?_
  subst he
  exact k x h' o' hΦ hle _ w' (ha.put d _ hn) (hs'.turned hf hsub hle hold hg)
theorem sy_bind {F1 : Nat} {xs ys : Array Operand} {us vs : List Value} {s : Nat} (hx : f.evs xs.toList = some us) (hy : f.evs ys.toList = some vs) (hw : gok ops f g = some true) (hn : Nat.blt d n = true)
    (k : Sy m P ops Q n D w0 M h0 rest ((d, .func (.func F1) us.toArray vs.toArray) :: f) h H) : Sy m P ops Q n D w0 M h0 (⟨some d, .makeFunc (.func F1) xs ys, t, p, af, g⟩ :: rest) f h H :=
 sy_val hw rfl hn (fun a w ha _ => by
  have h1 := map_evs ha hx
  have h2 := map_evs ha hy
  simp [execOp, Instr.makeFunc, h1, h2]) k
theorem sy_exq {v : Value} (hx : f.evs args.toList = some vs) (hr : ∀ w, St w0 M h0 h H w → (callFunc F vs.toArray).run P w = .ok (.value v) w) (hw : gok ops f g = some true) (hn : Nat.blt d n = true)
    (k : Sy m P ops Q n D w0 M h0 rest ((d, v) :: f) h H) : Sy m P ops Q n D w0 M h0 (⟨some d, .call ⟨.value (.func F), args, tys⟩, t, p, af, g⟩ :: rest) f h H :=
 sy_val hw rfl hn (fun a w ha hs => by
  have h1 := map_evs ha hx
  simp only [execOp, resolve, h1, Act.eval, Deferred.ofValue, Sem.run_bind, Sem.run_pure, Result.andThen_ok, invoke, Array.empty_append, Array.append_empty, hr w hs]) k
theorem sy_invoke {recv : Operand} {name : String} {vr v : Value} {vs2 : List Value} (hm : m.plain = true) (hr : f.ev recv = some vr) (hx : f.evs args.toList = some vs) (hmeth : ∀ w, (callMethod vr name vs.toArray).run P w = .ok (.enter F vs2.toArray) w) (hc : C0 P F vs2 h v) (hw : gok ops f g = some true) (hn : Nat.blt d n = true)
    (k : Sy m P ops Q n D w0 M h0 rest ((d, v) :: f) h H) : Sy m P ops Q n D w0 M h0 (⟨some d, .call ⟨.invoke recv name, args, tys⟩, t, p, af, g⟩ :: rest) f h H :=
 sy_enter hm hw rfl hn (fun a w ha => by
  have h1 := map_evs ha hx
  have h2 : (#[vr] ++ vs.toArray)[0]? = some vr := by simp
  have h3 : (#[vr] ++ vs.toArray).extract 1 (#[vr] ++ vs.toArray).size = vs.toArray := by
   apply Array.ext'
   simp
  simp only [execOp, resolve, h1, ha.ev hr, Sem.run_bind, Sem.run_pure, Result.andThen_ok, invoke, h2, h3, hmeth]) (fun w hs => hc w hs.sub) k
end calls
/-! entry -/
theorem enterXM {X : Type} {rv : X → Value} {Φ : X → Hp → Obj → Prop} {F : Nat} {fn : Func} {c : Code} {vs : List Value} {b : Nat} {ob : Obj} (hf : P.funcs[F]? = some fn) (hb : fn.body = some c) (hi : initO 0 vs = some f) (hn : Nat.ble vs.length fn.ntmps = true)
    (k : ∀ w, b < w.heap.size → Cy P c (bodyPost P fn fun e w' => ∃ x h' o', e = .returned (rv x) ∧ Φ x h' o' ∧ Frm w [b] w' ∧ h'.Sub w' ∧ h.Le h' ∧ (∀ k, k < w.heap.size → h' k = h k) ∧ w'.heap[b]? = some o') fn.ntmps [] w [b] h f h [.blk b ob]) : CXM P F vs h b ob rv Φ :=
 fun w hs hg hw => enterM hf hb hi hn (St.start1 hs hw hg) (k w (Array.getElem?_eq_some_iff.1 hw).1)
theorem enterMD' {F : Nat} {fn : Func} {c : Code} {vs : List Value} {R : Ending → World → Prop} (hf : P.funcs[F]? = some fn) (hb : fn.body = some c) (hi : initO 0 vs = some f) (hn : Nat.ble vs.length fn.ntmps = true)
    {w : World} (hs : St w M h0 h H w) (k : Cy P c (bodyPostD P fn R) fn.ntmps [] w M h0 f h H) : Calls P F vs.toArray w R := by
 refine calls_of_wp_defers hf hb (k _ w ⟨?_, rfl, fun i v hiv => ?_⟩ hs)
 · have := Nat.le_of_ble_eq_true hn
   simp
   omega
 · obtain ⟨_, h1⟩ := initO_get hi i v hiv
   have hlt := (List.getElem?_eq_some_iff.1 h1).1
   simp only [Nat.sub_zero] at h1 hlt
   rw [Array.getElem?_append_left (by simpa using hlt)]
   simpa using h1
theorem St.toTurn {w : World} {w1 : World} {b : Nat} {ob : Obj} {H1 : List Res} (hs : St w [b] h0 h (.blk b ob :: H1) w1) : Frm w [b] w1 ∧ h.Sub w1 ∧ h0.Le h ∧ (∀ k, k < w.heap.size → h k = h0 k) ∧ w1.heap[b]? = some ob := ⟨hs.frm, hs.sub, hs.le, hs.old, hs.ok _ (List.mem_cons_self)⟩
end
end Go.Proofs.YtanhhihechakhaaDoor.E
set_option linter.unusedVariables false
set_option linter.unusedSimpArgs false
namespace Go.Proofs.YtanhhihechakhaaDoor.E
open Go.RowKit
section
variable {m : Md} {P : Program} {ops : Array Oper} {Q : Exit → Act → World → Prop} {n : Nat} {D : List Deferred} {w0 : World} {M : List Nat} {h0 : Hp}
variable {f : Tab} {h : Hp} {H : List Res} {rest : List Oper} {o : Oper}
section ops
variable {d t s : Nat} {p : String} {af : Array Edge} {g : Option (Nat × Bool)}
theorem sy_rowform {v : Value} {e sz l : Nat} {xs : List Value} {H1 : List Res} (i : Nat) (hp : pickR i H = some (.row v e sz l xs, H1)) (k : ∀ A c, v = .slice A l c → Sy .txt P ops Q n D w0 M h0 rest f h H) : Sy .txt P ops Q n D w0 M h0 rest f h H := fun a w ha hs => by
 have hr : w.ownsRow 0 e sz v l xs := (hs.swap (pickR_perm hp)).ok _ (List.mem_cons_self)
 rcases hr.2 with ⟨rfl, rfl⟩ | ⟨g, cap, cur, rfl, _⟩
 · exact k none 0 rfl a w ha hs
 · exact k _ cap rfl a w ha hs
theorem sy_eqsl {op : BinOp} {x : Operand} {A : Option Addr} {l c e l2 c2 : Nat} {b : Bool} {s2 : Nat} (hs : P.underlying s = some (.slice e)) (hx : f.ev x = some (.slice A l c)) (hb : match op with | .eql => b = A.isNone | .neq => b = !A.isNone | _ => False) (hw : gok ops f g = some true) (hn : Nat.blt d n = true)
    (k : Sy m P ops Q n D w0 M h0 rest ((d, .bool b) :: f) h H) : Sy m P ops Q n D w0 M h0 (⟨some d, .binOp op s x (.const (.slice none l2 c2)) s2, t, p, af, g⟩ :: rest) f h H := by
 refine sy_val hw rfl hn (fun a w ha _ => ?_) k
 have heq : ∀ dd, (Op.equalIn (dd + 1) s (.slice A l c) (.slice none l2 c2)).run P w = .ok A.isNone w := fun dd => by
  cases A <;> simp [Op.equalIn, run_underlying hs]
 have heq2 : (Op.equal s (.slice A l c) (.slice none l2 c2)).run P w = .ok A.isNone w := heq 9999
 have hc : a.eval (.const (.slice none l2 c2)) = .slice none l2 c2 := rfl
 cases op <;> simp only at hb <;> first | exact hb.elim | (subst hb; simp [execOp, ha.ev hx, hc, eqGuard_at_slice, binOp, heq2])
theorem sy_strfrom {x y : Operand} {bs : ByteArray} {i1 : IntKind} {lo : Nat} (hs : P.underlying s = some .string) (hx : f.ev x = some (.string bs)) (hy : f.ev y = some (.int i1 (lo : Int))) (h1 : lo ≤ bs.size) (hw : gok ops f g = some true) (hn : Nat.blt d n = true)
    (k : Sy m P ops Q n D w0 M h0 rest ((d, .string (bs.extract lo bs.size)) :: f) h H) : Sy m P ops Q n D w0 M h0 (⟨some d, .slice s x (some y) none none, t, p, af, g⟩ :: rest) f h H :=
 sy_val hw rfl hn (fun a w ha _ => by simp [execOp, ha.ev hx, ha.ev hy, Instr.sliceAt, Instr.slice, Instr.sliceBounds, Instr.sliceBound, asIntOf, run_underlying hs, h1]) k
theorem sy_strto {x z : Operand} {bs : ByteArray} {i2 : IntKind} {hi : Nat} (hs : P.underlying s = some .string) (hx : f.ev x = some (.string bs)) (hz : f.ev z = some (.int i2 (hi : Int))) (h2 : hi ≤ bs.size) (hw : gok ops f g = some true) (hn : Nat.blt d n = true)
    (k : Sy m P ops Q n D w0 M h0 rest ((d, .string (bs.extract 0 hi)) :: f) h H) : Sy m P ops Q n D w0 M h0 (⟨some d, .slice s x none (some z) none, t, p, af, g⟩ :: rest) f h H :=
 sy_val hw rfl hn (fun a w ha _ => by simp [execOp, ha.ev hx, ha.ev hz, Instr.sliceAt, Instr.slice, Instr.sliceBounds, Instr.sliceBound, asIntOf, run_underlying hs, h2]) k
end ops
/-! a loop, round by round -/
theorem cy_rounds {c : Code} (N : Nat) (k : Cy P c (Exit.then (Code.rounds P c Q N) Q) n D w0 M h0 f h H) : Cy P (.loop c) Q n D w0 M h0 f h H := fun a w ha hs => wp_loop_rounds (N + 1) (k a w ha hs)
theorem ny_again {c : Code} {N : Nat} (k : Cy P c (Exit.then (Code.rounds P c Q N) Q) n D w0 M h0 f h H) : Ny (Exit.then (Code.rounds P c Q (N + 1)) Q) .normal n D w0 M h0 f h H := fun a w ha hs => k a w ha hs
end
end Go.Proofs.YtanhhihechakhaaDoor.E
set_option linter.unusedVariables false
namespace Go.Proofs.YtanhhihechakhaaDoor
open Go.RowKit Go.Proofs.YtanhhihechakhaaDoor.E
theorem call_20 : callB Tryd.prog 20 = true := by kernel_rfl
theorem call_21 : callB Tryd.prog 21 = true := by kernel_rfl
theorem call_22 : callB Tryd.prog 22 = true := by kernel_rfl
end Go.Proofs.YtanhhihechakhaaDoor
set_option linter.unusedVariables false
namespace Go.Proofs.YtanhhihechakhaaDoor
open Go.RowKit Go.Proofs.YtanhhihechakhaaDoor.E
theorem bld_74_0x1x2x4 {x1 : Option Addr} {x2 : Nat} {x3 : Nat} {x4 : Int} {x5 : Int} {x6 : Option Nat} (w : World) : (Instr.build 74 #[(0, .slice x1 x2 x3), (1, .int .i64 x4), (2, .int .i64 x5), (4, .map x6)]).run Tryd.prog w = .ok (.agg #[.slice x1 x2 x3, .int .i64 x4, .int .i64 x5, .int .i64 0, .map x6, .slice none 0 0]) w := by kernel_rfl
theorem call_12 : callB Tryd.prog 12 = true := by kernel_rfl
theorem call_36 : callB Tryd.prog 36 = true := by kernel_rfl
theorem fld_76_0 : fldB Tryd.prog 76 0 0 = true := by kernel_rfl
theorem fld_76_1 : fldB Tryd.prog 76 1 1 = true := by kernel_rfl
theorem sz_76 : szB Tryd.prog 76 2 = true := by kernel_rfl
theorem zer_51 : zerL Tryd.prog 51 = some [.slice none 0 0] := by kernel_rfl
theorem zer_76 : zerL Tryd.prog 76 = some [.int .i64 0, .int .i64 0] := by kernel_rfl
end Go.Proofs.YtanhhihechakhaaDoor
set_option linter.unusedVariables false
namespace Go.Proofs.YtanhhihechakhaaDoor
open Go.RowKit Go.Proofs.YtanhhihechakhaaDoor.E
theorem call_68 : callB Tryd.prog 68 = true := by kernel_rfl
end Go.Proofs.YtanhhihechakhaaDoor
set_option linter.unusedVariables false
namespace Go.Proofs.YtanhhihechakhaaDoor
open Go.RowKit Go.Proofs.YtanhhihechakhaaDoor.E
theorem bld_30_  (w : World) : (Instr.build 30 #[]).run Tryd.prog w = .ok (.agg #[.int .i64 0, .int .i64 0, .string ⟨#[]⟩, .slice none 0 0]) w := by kernel_rfl
theorem call_67 : callB Tryd.prog 67 = true := by kernel_rfl
theorem call_74 : callB Tryd.prog 74 = true := by kernel_rfl
theorem call_75 : callB Tryd.prog 75 = true := by kernel_rfl
theorem call_76 : callB Tryd.prog 76 = true := by kernel_rfl
theorem call_78 : callB Tryd.prog 78 = true := by kernel_rfl
theorem one_71 : oneB Tryd.prog 71 = true := by kernel_rfl
end Go.Proofs.YtanhhihechakhaaDoor
set_option linter.unusedVariables false
namespace Go.Proofs.YtanhhihechakhaaDoor
open Go.RowKit Go.Proofs.YtanhhihechakhaaDoor.E
theorem call_71 : callB Tryd.prog 71 = true := by kernel_rfl
theorem call_82 : callB Tryd.prog 82 = true := by kernel_rfl
theorem call_83 : callB Tryd.prog 83 = true := by kernel_rfl
theorem fld_65_2 : fldB Tryd.prog 65 2 2 = true := by kernel_rfl
end Go.Proofs.YtanhhihechakhaaDoor
set_option linter.unusedVariables false
namespace Go.Proofs.YtanhhihechakhaaDoor
open Go.RowKit Go.Proofs.YtanhhihechakhaaDoor.E
theorem bsl_23_1_0 {x1 : Int} {x2 : Int} {x3 : ByteArray} {x4 : Option Addr} {x5 : Nat} {x6 : Nat} (w : World) : (Instr.buildSlice 23 1 #[(0, .agg #[.int .i64 x1, .int .i64 x2, .string x3, .slice x4 x5 x6])]).run Tryd.prog w = .ok (.slice (some ⟨w.heap.size, 0, none⟩) 1 1) (w.alloc (.cells #[.int .i64 x1, .int .i64 x2, .string x3, .slice x4 x5 x6] 30)) := by kernel_rfl
theorem call_18 : callB Tryd.prog 18 = true := by kernel_rfl
theorem call_37 : callB Tryd.prog 37 = true := by kernel_rfl
theorem call_61 : callB Tryd.prog 61 = true := by kernel_rfl
theorem call_77 : callB Tryd.prog 77 = true := by kernel_rfl
theorem call_81 : callB Tryd.prog 81 = true := by kernel_rfl
end Go.Proofs.YtanhhihechakhaaDoor
set_option linter.unusedVariables false
namespace Go.Proofs.YtanhhihechakhaaDoor
open Go.RowKit Go.Proofs.YtanhhihechakhaaDoor.E
theorem bld_30_0x1x3 {x1 : Int} {x2 : Int} {x3 : Option Addr} {x4 : Nat} {x5 : Nat} (w : World) : (Instr.build 30 #[(0, .int .i64 x1), (1, .int .i64 x2), (3, .slice x3 x4 x5)]).run Tryd.prog w = .ok (.agg #[.int .i64 x1, .int .i64 x2, .string ⟨#[]⟩, .slice x3 x4 x5]) w := by kernel_rfl
theorem call_19 : callB Tryd.prog 19 = true := by kernel_rfl
theorem fld_74_2 : fldB Tryd.prog 74 2 2 = true := by kernel_rfl
theorem fld_74_4 : fldB Tryd.prog 74 4 4 = true := by kernel_rfl
theorem fld_74_5 : fldB Tryd.prog 74 5 5 = true := by kernel_rfl
theorem one_72 : oneB Tryd.prog 72 = true := by kernel_rfl
theorem row_51 : rowB Tryd.prog 51 9 1 16 = true := by kernel_rfl
theorem sz_51 : szB Tryd.prog 51 1 = true := by kernel_rfl
end Go.Proofs.YtanhhihechakhaaDoor
set_option linter.unusedVariables false
namespace Go.Proofs.YtanhhihechakhaaDoor
open Go.RowKit Go.Proofs.YtanhhihechakhaaDoor.E
theorem bld_76_0x1 {x1 : Int} {x2 : Int} (w : World) : (Instr.build 76 #[(0, .int .i64 x1), (1, .int .i64 x2)]).run Tryd.prog w = .ok (.agg #[.int .i64 x1, .int .i64 x2]) w := by kernel_rfl
theorem call_38 : callB Tryd.prog 38 = true := by kernel_rfl
theorem call_39 : callB Tryd.prog 39 = true := by kernel_rfl
theorem call_69 : callB Tryd.prog 69 = true := by kernel_rfl
theorem call_70 : callB Tryd.prog 70 = true := by kernel_rfl
theorem els_45 : elsB Tryd.prog 45 65 5 = true := by kernel_rfl
theorem fld_65_3 : fldB Tryd.prog 65 3 3 = true := by kernel_rfl
theorem fld_74_0 : fldB Tryd.prog 74 0 0 = true := by kernel_rfl
theorem fld_74_1 : fldB Tryd.prog 74 1 1 = true := by kernel_rfl
theorem fld_74_3 : fldB Tryd.prog 74 3 3 = true := by kernel_rfl
theorem one_45 : oneB Tryd.prog 45 = true := by kernel_rfl
theorem one_4 : oneB Tryd.prog 4 = true := by kernel_rfl
end Go.Proofs.YtanhhihechakhaaDoor
set_option linter.unusedVariables false
set_option linter.unusedSimpArgs false
namespace Go.Proofs.YtanhhihechakhaaDoor.E
open Go.RowKit
def keysOf (H : List Res) : List Nat := H.filterMap Res.key
theorem mem_keys {H : List Res} {r : Res} {k : Nat} (hr : r ∈ H) (hk : r.key = some k) : k ∈ keysOf H := List.mem_filterMap.2 ⟨r, hr, hk⟩
structure Own (h : Hp) (H : List Res) (w : World) : Prop where
 ok : ∀ r ∈ H, r.Ok w
 out : ∀ r ∈ H, ∀ k, r.key = some k → h k = none
 dis : H.Pairwise (fun r s => ∀ k, r.key = some k → s.key ≠ some k)
theorem St.startN {w : World} {h : Hp} {H : List Res} (hs : h.Sub w) (ho : Own h H w) : St w (keysOf H) h h H w :=
 ⟨Frm.refl w _, hs, Hp.Le.refl h, fun _ _ => rfl, ho.ok, fun r hr k hk => ⟨ho.out r hr k hk, .inr (mem_keys hr hk)⟩, ho.dis⟩
theorem Own.lt {h : Hp} {H : List Res} {w : World} (ho : Own h H w) : ∀ k ∈ keysOf H, k < w.heap.size := fun k hk => by
 obtain ⟨r, hr, hk⟩ := List.mem_filterMap.1 hk
 exact Res.Ok.lt (ho.ok r hr) hk
def CR {X : Type} (P : Program) (F : Nat) (vs : List Value) (h : Hp) (H : List Res) (rv : X → Ending) (Φ : X → Hp → List Res → Prop) : Prop :=
 ∀ w, h.Sub w → Own h H w → Calls P F vs.toArray w fun e w' => ∃ x h' H', e = rv x ∧ Φ x h' H' ∧ St w (keysOf H) h h' H' w'
def pickRs : List Nat → List Res → Option (List Res × List Res)
 | [], H => some ([], H)
 | i :: is, H => match pickR i H with
  | some (r, t) => (match pickRs is t with | some (l, t') => some (r :: l, t') | none => none)
  | none => none
theorem pickRs_perm : ∀ {is : List Nat} {H L T : List Res}, pickRs is H = some (L, T) → H.Perm (L ++ T)
 | [], H, L, T, h => by
  simp only [pickRs, Option.some.injEq, Prod.mk.injEq] at h
  obtain ⟨rfl, rfl⟩ := h
  exact List.Perm.refl _
 | i :: is, H, L, T, h => by
  unfold pickRs at h
  split at h
  · rename_i r t hp
    split at h
    · rename_i l t' hl
      simp only [Option.some.injEq, Prod.mk.injEq] at h
      obtain ⟨rfl, rfl⟩ := h
      exact (pickR_perm hp).trans ((pickRs_perm hl).cons r)
    · cases h
  · cases h
section
variable {m : Md} {P : Program} {ops : Array Oper} {Q : Exit → Act → World → Prop} {n : Nat} {D : List Deferred} {w0 : World} {M : List Nat} {h0 : Hp}
variable {f : Tab} {h : Hp} {H : List Res} {rest : List Oper} {o : Oper}
theorem St.own' {w : World} {Hin H1 : List Res} (s : St w0 M h0 h (Hin ++ H1) w) : Own h Hin w :=
 ⟨fun r hr => s.ok r (List.mem_append_left _ hr), fun r hr k hk => (s.own r (List.mem_append_left _ hr) k hk).1, (List.pairwise_append.1 s.dis).1⟩
theorem St.after {w w' : World} {Hin H1 H' : List Res} {h' : Hp} (s : St w0 M h0 h (Hin ++ H1) w) (t : St w (keysOf Hin) h h' H' w') : St w0 M h0 h' (H' ++ H1) w' := by
 have hin : ∀ x, x ∈ keysOf Hin → w0.heap.size ≤ x ∨ x ∈ M := fun x hx => by
  obtain ⟨r, hr, hk⟩ := List.mem_filterMap.1 hx
  exact (s.own r (List.mem_append_left _ hr) x hk).2
 have hdis := List.pairwise_append.1 s.dis
 have hlt : ∀ r ∈ H1, ∀ k, r.key = some k → k < w.heap.size := fun r hr k hk => Res.Ok.lt (s.ok r (List.mem_append_right _ hr)) hk
 have hnk : ∀ r ∈ H1, ∀ k, r.key = some k → k ∉ keysOf Hin := fun r hr k hk hm => by
  obtain ⟨r0, hr0, hk0⟩ := List.mem_filterMap.1 hm
  exact hdis.2.2 r0 hr0 r hr k hk0 hk
 refine { frm := s.frm.transM t.frm hin, sub := t.sub, le := s.le.trans t.le, old := fun k hk => (t.old k (Nat.lt_of_lt_of_le hk s.frm.size)).trans (s.old k hk), ok := ?_, own := ?_, dis := ?_ }
 · intro r hr
   rcases List.mem_append.1 hr with hr | hr
   · exact t.ok r hr
   · exact Res.Ok.keep (s.ok r (List.mem_append_right _ hr)) fun k hk => t.frm.block k (hlt r hr k hk) (hnk r hr k hk)
 · intro r hr k hk
   rcases List.mem_append.1 hr with hr | hr
   · have h1 := t.own r hr k hk
     refine ⟨h1.1, ?_⟩
     rcases h1.2 with h2 | h2
     · exact .inl (Nat.le_trans s.frm.size h2)
     · exact hin k h2
   · have h1 := s.own r (List.mem_append_right _ hr) k hk
     exact ⟨(t.old k (hlt r hr k hk)).trans h1.1, h1.2⟩
 · refine List.pairwise_append.2 ⟨t.dis, hdis.2.1, fun r hr r1 hr1 k hk hk1 => ?_⟩
   rcases (t.own r hr k hk).2 with h2 | h2
   · have := hlt r1 hr1 k hk1
     omega
   · exact hnk r1 hr1 k hk1 h2
def Upon (P : Program) (ops : Array Oper) (Q : Exit → Act → World → Prop) (n : Nat) (D : List Deferred) (w0 : World) (M : List Nat) (h0 : Hp) (rest : List Oper) (d : Nat) (f : Tab) (h : Hp) (H : List Res) : Ending → Prop
 | .returned v => Sy .txt P ops Q n D w0 M h0 rest ((d, v) :: f) h H
 | .panicked ch => Ny Q (.panic ch) n D w0 M h0 f h H
 | .outgrown => False
section calls
variable {d t : Nat} {p : String} {af : Array Edge} {g : Option (Nat × Bool)} {F : Nat} {args : Array Operand} {tys : Array TypeId} {vs : List Value}
theorem sy_callR {X : Type} {rv : X → Ending} {Φ : X → Hp → List Res → Prop} {Hin H1 : List Res} (is : List Nat) (hF : callB P F = true) (hx : f.evs args.toList = some vs) (hp : pickRs is H = some (Hin, H1)) (hc : CR P F vs h Hin rv Φ) (hw : gok ops f g = some true) (hn : Nat.blt d n = true)
    (k : ∀ x h' H', Φ x h' H' → h.Le h' → Upon P ops Q n D w0 M h0 rest d f h' (H' ++ H1) (rv x)) : Sy .txt P ops Q n D w0 M h0 (⟨some d, .call ⟨.value (.func F), args, tys⟩, t, p, af, g⟩ :: rest) f h H :=
 sy_op hw fun a w ha hs => by
  have hs' := hs.swap (pickRs_perm hp)
  unfold Oper.wp
  rw [run_callF hF ha hx]
  refine (hc w hs.sub hs'.own').mono fun e w' ⟨x, h', H', he, hΦ, ht⟩ => ?_
  have hk := k x h' H' hΦ ht.le
  rw [← he] at hk
  cases e with
  | returned v => exact hk _ w' (ha.put d _ hn) (hs'.after ht)
  | panicked ch => exact hk a w' ha (hs'.after ht)
  | outgrown => exact hk.elim
theorem sy_callR1 {X : Type} {rv : X → Value} {Φ : X → Hp → List Res → Prop} {Hin H1 : List Res} (is : List Nat) (hF : callB P F = true) (hx : f.evs args.toList = some vs) (hp : pickRs is H = some (Hin, H1)) (hc : CR P F vs h Hin (fun x => .returned (rv x)) Φ) (hw : gok ops f g = some true) (hn : Nat.blt d n = true)
    (k : ∀ x h' H', Φ x h' H' → h.Le h' → Sy .txt P ops Q n D w0 M h0 rest ((d, rv x) :: f) h' (H' ++ H1)) : Sy .txt P ops Q n D w0 M h0 (⟨some d, .call ⟨.value (.func F), args, tys⟩, t, p, af, g⟩ :: rest) f h H :=
 sy_callR is hF hx hp hc hw hn fun x h' H' hΦ hle => k x h' H' hΦ hle
end calls
variable {ch : List PanicEntry}
theorem ny_thenP {K : Act → World → Prop} (k : Ny Q (.panic ch) n D w0 M h0 f h H) : Ny (Exit.then K Q) (.panic ch) n D w0 M h0 f h H := k
theorem ny_blockP {i : Nat} (k : Ny Q (.panic ch) n D w0 M h0 f h H) : Ny (Exit.inBlock i Q) (.panic ch) n D w0 M h0 f h H := k
theorem ny_finP {fn : Func} {R : Ending → World → Prop} (k : ∀ w, St w0 M h0 h H w → R (.panicked ch) w) : Ny (bodyPost P fn R) (.panic ch) n [] w0 M h0 f h H := fun a w ha hs => ⟨ha.defers, k w hs⟩
/-! entry -/
theorem enterR {X : Type} {rv : X → Ending} {Φ : X → Hp → List Res → Prop} {F : Nat} {fn : Func} {c : Code} {vs : List Value} (hf : P.funcs[F]? = some fn) (hb : fn.body = some c) (hi : initO 0 vs = some f) (hn : Nat.ble vs.length fn.ntmps = true)
    (k : ∀ w, (∀ x ∈ keysOf H, x < w.heap.size) → Cy P c (bodyPost P fn fun e w' => ∃ x h' H', e = rv x ∧ Φ x h' H' ∧ St w (keysOf H) h h' H' w') fn.ntmps [] w (keysOf H) h f h H) : CR P F vs h H rv Φ :=
 fun w hs ho => enterM hf hb hi hn (St.startN hs ho) (k w ho.lt)
theorem enterRD {X : Type} {rv : X → Ending} {Φ : X → Hp → List Res → Prop} {F : Nat} {fn : Func} {c : Code} {vs : List Value} (hf : P.funcs[F]? = some fn) (hb : fn.body = some c) (hi : initO 0 vs = some f) (hn : Nat.ble vs.length fn.ntmps = true)
    (k : ∀ w, (∀ x ∈ keysOf H, x < w.heap.size) → Cy P c (bodyPostD P fn fun e w' => ∃ x h' H', e = rv x ∧ Φ x h' H' ∧ St w (keysOf H) h h' H' w') fn.ntmps [] w (keysOf H) h f h H) : CR P F vs h H rv Φ :=
 fun w hs ho => enterMD' hf hb hi hn (St.startN hs ho) (k w ho.lt)
/-! more and less -/
theorem CR.mono {X Y : Type} {F : Nat} {vs : List Value} {rv : X → Ending} {rv2 : Y → Ending} {Φ : X → Hp → List Res → Prop} {Ψ : Y → Hp → List Res → Prop} (hc : CR P F vs h H rv Φ) (hk : ∀ x h' H', Φ x h' H' → ∃ y, rv2 y = rv x ∧ Ψ y h' H') : CR P F vs h H rv2 Ψ :=
 fun w hs ho => (hc w hs ho).mono fun e w' ⟨x, h', H', he, hΦ, ht⟩ => by
  obtain ⟨y, h1, h2⟩ := hk x h' H' hΦ
  exact ⟨y, h', H', he.trans h1.symm, h2, ht⟩
end
end Go.Proofs.YtanhhihechakhaaDoor.E
set_option linter.unusedVariables false
set_option linter.unusedSimpArgs false
namespace Go.Proofs.YtanhhihechakhaaDoor.E
open Go.RowKit
def MapV (P : Program) (k e : TypeId) (o : Obj) (n : Nat) (g : ByteArray → Option Nat) : Prop :=
 ∃ D : DataW Unit, (∀ (w : World) (b : Nat), w.heap[b]? = some o → w.ownsMap P k (plainElem P e) b n D) ∧ Maps.IsMap D ∧ (∀ s : ByteArray, Maps.has D (.string s.data.toList) = (g s).isSome) ∧ ∀ (s : ByteArray) (v : Nat) (z : DataW Unit), g s = some v → D.atKey (.string s.data.toList) z = .lit (.int .i64 (v : Int))
theorem owns_of {P : Program} {k e : TypeId} {w : World} {b n : Nat} {D : DataW Unit} (h : w.ownsMap P k (plainElem P e) b n D) : ∃ o, w.heap[b]? = some o ∧ ∀ (w : World) (b : Nat), w.heap[b]? = some o → w.ownsMap P k (plainElem P e) b n D := by
 obtain ⟨es, clock, hb, h1, h2, h3⟩ := h
 exact ⟨_, hb, fun w b hb => ⟨es, clock, hb, h1, h2, h3⟩⟩
theorem mapV_new (P : Program) (k e : TypeId) : MapV P k e (.map #[] 0) 0 (fun _ => none) :=
 ⟨.map [], fun w b hb => by
  obtain ⟨es, clock, hb1, h1, h2, h3⟩ := World.ownsMap_made (H := Unit) w P k (plainElem P e)
  have h4 : (w.alloc (.map #[] 0)).heap[w.heap.size]? = some (.map #[] 0) := heap_alloc_new w _
  rw [h4] at hb1
  cases hb1
  exact ⟨#[], 0, hb, h1, h2, h3⟩, ⟨[], rfl⟩, fun s => rfl, fun s v z h => by cases h⟩
def updM (g : ByteArray → Option Nat) (s : ByteArray) (v : Nat) : ByteArray → Option Nat := fun t => if t = s then some v else g t
section
variable {m : Md} {P : Program} {ops : Array Oper} {Q : Exit → Act → World → Prop} {n : Nat} {D : List Deferred} {w0 : World} {M : List Nat} {h0 : Hp}
variable {f : Tab} {h : Hp} {H : List Res} {rest : List Oper}
variable {d t s ty : Nat} {p : String} {af : Array Edge} {g : Option (Nat × Bool)}
theorem sy_makeMap {k e : TypeId} (hw : gok ops f g = some true) (hn : Nat.blt d n = true)
    (c : ∀ b o, w0.heap.size ≤ b → b ∉ M → MapV P k e o 0 (fun _ => none) → Sy .txt P ops Q n D w0 M h0 rest ((d, .map (some b)) :: f) h (.blk b o :: H)) (hM : ∀ x ∈ M, x < w0.heap.size) :
    Sy .txt P ops Q n D w0 M h0 (⟨some d, .makeMap t none, s, p, af, g⟩ :: rest) f h H :=
 sy_op hw fun a w ha hs => by
  have hrun : (Instr.makeMap t none).run P w = .ok (.map (some w.heap.size)) (w.alloc (.map #[] 0)) := rfl
  unfold Oper.wp
  simp only [execOp, Option.map_none, Sem.run_bind, hrun, Result.andThen_ok, Sem.run_pure]
  exact c w.heap.size _ hs.frm.size (fun hx => by have := hM _ hx; have := hs.frm.size; omega) (mapV_new P k e) _ _ (ha.put d _ hn) (hs.alloc _)
theorem sy_lookupOk {k e : TypeId} {x y : Operand} {b nn : Nat} {o : Obj} {gm : ByteArray → Option Nat} {u : ByteArray} {H1 : List Res} (i : Nat) (ht : P.underlying t = some (.map k e)) (hk : P.underlying k = some .string) (he : P.underlying e = some (.int .i64)) (hz : ∀ w, (zeroValue e).run P w = .ok (.int .i64 0) w)
    (hx : f.ev x = some (.map (some b))) (hy : f.ev y = some (.string u)) (hu : u.size ≤ maxLen) (hp : pickR i H = some (.blk b o, H1)) (hm : MapV P k e o nn gm) (hw : gok ops f g = some true) (hn : Nat.blt d n = true)
    (c : Sy m P ops Q n D w0 M h0 rest ((d, .tuple #[.int .i64 (((gm u).getD 0 : Nat) : Int), .bool (gm u).isSome]) :: f) h H) : Sy m P ops Q n D w0 M h0 (⟨some d, .lookup t x y true, s, p, af, g⟩ :: rest) f h H :=
 sy_val hw rfl hn (fun a w ha hs => by
  obtain ⟨Dm, h1, h2, h3, h4⟩ := hm
  have hb : w.heap[b]? = some o := (hs.swap (pickR_perm hp)).ok _ (List.mem_cons_self)
  obtain ⟨v, ps, hrun, hv⟩ := (h1 w b hb).look_ok (Maps.string_keyed hk) ht (hz w) (plainElem_int he (by decide)) (WideMaps.keyOf_string_mk hk hu)
  obtain ⟨c, rfl, hc, _⟩ := plainElem_int_inv he hv
  have hc : (Dm.atKey (.string u.data.toList) (.lit (.int .i64 0))) = .lit (.int .i64 c) := congrArg Prod.fst hc
  have hcv : c = (((gm u).getD 0 : Nat) : Int) := by
   cases hg : gm u with
   | none =>
    have h5 := h3 u
    rw [hg] at h5
    rw [Maps.atKey_of_not_has h5] at hc
    injection hc with hc
    injection hc with _ hc
    exact hc.symm
   | some v =>
    rw [h4 u v _ hg] at hc
    injection hc with hc
    injection hc with _ hc
    exact hc.symm
  rw [h3 u, hcv] at hrun
  simp [execOp, ha.ev hx, ha.ev hy, hrun, Result.andThen]) c
theorem sy_mapUpd {k e : TypeId} {x y z : Operand} {b nn v : Nat} {o : Obj} {gm : ByteArray → Option Nat} {u : ByteArray} {H1 : List Res} (i : Nat) (ht : P.underlying t = some (.map k e)) (hk : P.underlying k = some .string) (he : P.underlying e = some (.int .i64))
    (hx : f.ev x = some (.map (some b))) (hy : f.ev y = some (.string u)) (hzv : f.ev z = some (.int .i64 (v : Int))) (hu : u.size ≤ maxLen) (hv : v ≤ 9223372036854775807) (hnn : nn < maxLen) (hp : pickR i H = some (.blk b o, H1)) (hm : MapV P k e o nn gm) (hw : gok ops f g = some true)
    (c : ∀ o', MapV P k e o' (nn + 1) (updM gm u v) → Sy .txt P ops Q n D w0 M h0 rest f h (.blk b o' :: H1)) : Sy .txt P ops Q n D w0 M h0 (⟨none, .mapUpdate t x y z, s, p, af, g⟩ :: rest) f h H :=
 sy_op hw fun a w ha hs => by
  obtain ⟨Dm, h1, h2, h3, h4⟩ := hm
  have hs' := hs.swap (pickR_perm hp)
  have hb : w.heap[b]? = some o := hs'.ok _ (List.mem_cons_self)
  have hwf : (Lit.int .i64 (v : Int)).wf = true := by simp [Lit.wf, IntKind.min, IntKind.max, IntKind.signed, IntKind.bits]; omega
  obtain ⟨w', hrun, ho, hg⟩ := (h1 w b hb).update (Maps.string_keyed hk) ht hnn (WideMaps.keyOf_string_mk hk hu) (plainElem_int (H := Unit) he hwf)
  obtain ⟨o', hb', h5⟩ := owns_of ho
  have hkl : WideAt.IsKeyLit (.string u.data.toList) := trivial
  have hm' : MapV P k e o' (nn + 1) (updM gm u v) := by
   refine ⟨_, h5, h2.put _ _, fun s => ?_, fun s v' z hgs => ?_⟩
   · by_cases e1 : s = u
     · subst e1
       rw [Maps.has_put_same h2 hkl]
       simp [updM]
     · rw [Maps.has_put_other (fun e2 => e1 (by injection e2 with e2; exact ByteArray.ext (Array.toList_inj.1 e2))), h3 s]
       simp [updM, e1]
   · by_cases e1 : s = u
     · subst e1
       rw [Maps.atKey_put_same h2 hkl]
       simp only [updM, if_true, Option.some.injEq] at hgs
       rw [hgs]
     · rw [Maps.atKey_put_other (fun e2 => e1 (by injection e2 with e2; exact ByteArray.ext (Array.toList_inj.1 e2)))]
       exact h4 s v' z (by simpa [updM, e1] using hgs)
  unfold Oper.wp
  simp only [execOp, ha.ev hx, ha.ev hy, ha.ev hzv, Sem.run_bind, hrun, Result.andThen_ok, Sem.run_pure]
  exact c o' hm' a w' ha (hs'.write ⟨hg.os, hg.tape, hg.output, hg.size, fun j hj hm => hg.block j hj (by simpa using hm)⟩ hb')
end
end Go.Proofs.YtanhhihechakhaaDoor.E
set_option linter.unusedVariables false
set_option linter.unusedSimpArgs false
namespace Go.Proofs.YtanhhihechakhaaDoor.E
open Go.RowKit
section
variable {P : Program} {ops : Array Oper} {Q : Exit → Act → World → Prop} {n : Nat} {D : List Deferred} {w0 : World} {M : List Nat} {h0 : Hp}
variable {f : Tab} {h : Hp} {H : List Res} {rest : List Oper}
section ops
variable {d t s : Nat} {p : String} {af : Array Edge} {g : Option (Nat × Bool)}
theorem sy_panic {x : Operand} {v : Value} (hx : f.ev x = some v) (hv : ∀ w, (Instr.panic v : Sem Value).run P w = .halt (.panic v) w) (hw : gok ops f g = some true) (k : Ny Q (.panic [{ v := v, recovered := false }]) n D w0 M h0 f h H) : Sy .txt P ops Q n D w0 M h0 (⟨none, .panic x, s, p, af, g⟩ :: rest) f h H :=
 sy_op hw fun a w ha hs => by
  have h2 := hv w
  unfold Oper.wp
  simp only [execOp, ha.ev hx, Sem.run_bind, h2]
  exact k a w ha hs
theorem sy_deferC {x : Operand} {F : Nat} {args : Array Operand} {tys : Array TypeId} {vs caps : List Value} (hf : f.ev x = some (.func (.func F) #[] caps.toArray)) (hx : f.evs args.toList = some vs) (hw : gok ops f g = some true) (k : Sy .txt P ops Q n (⟨.fn (.func F) caps.toArray, vs.toArray⟩ :: D) w0 M h0 rest f h H) :
    Sy .txt P ops Q n D w0 M h0 (⟨none, .defer ⟨.value x, args, tys⟩, t, p, af, g⟩ :: rest) f h H :=
 sy_op hw fun a w ha hs => by
  have h1 := map_evs ha hx
  have hrun : (execOp a.eval ⟨none, .defer ⟨.value x, args, tys⟩, t, p, af, g⟩).run P w = .ok (.defer ⟨.fn (.func F) caps.toArray, vs.toArray⟩) w := by
   simp only [execOp, resolve, h1, ha.ev hf, Deferred.ofValue, Sem.run_bind, Sem.run_pure, Result.andThen_ok, Array.empty_append]
  unfold Oper.wp
  rw [hrun]
  exact k _ w ⟨ha.size, by simp [Act.put, ha.defers], ha.get⟩ hs
end ops
/-! the deferred calls, in whatever mode -/
def LvU (P : Program) (fn : Func) (R : Ending → World → Prop) (u : FrameMode) (n : Nat) (ds : List Deferred) (w0 : World) (M : List Nat) (h0 : Hp) (f : Tab) (h : Hp) (H : List Res) : Prop :=
 ∀ (a : Act) (w : World), a.tmps.size = n → (∀ (i : Nat) (v : Value), f.get i = some v → a.tmps[i]? = some v) → St w0 M h0 h H w → Leaves P fn a.tmps R ds u w
theorem ny_finUR {fn : Func} {R : Ending → World → Prop} (k : LvU P fn R .returning n D w0 M h0 f h H) : Ny (bodyPostD P fn R) .ret n D w0 M h0 f h H := fun a w ha hs => by
 show Leaves P fn a.tmps R a.defers .returning w
 rw [ha.defers]
 exact k a w ha.size ha.get hs
theorem ny_finUP {fn : Func} {R : Ending → World → Prop} {ch : List PanicEntry} (k : LvU P fn R (.panicking ch) n D w0 M h0 f h H) : Ny (bodyPostD P fn R) (.panic ch) n D w0 M h0 f h H := fun a w ha hs => by
 show Leaves P fn a.tmps R a.defers (.panicking ch) w
 rw [ha.defers]
 exact k a w ha.size ha.get hs
def CRD {X : Type} (P : Program) (F : Nat) (vs : List Value) (u u' : FrameMode) (h : Hp) (Hin : List Res) (Φ : X → Hp → List Res → Prop) : Prop :=
 ∀ w, h.Sub w → Own h Hin w → CallsD P F vs.toArray u w fun e u2 w' => ∃ x h' H', u2 = u' ∧ (∃ v, e = .returned v) ∧ Φ x h' H' ∧ St w (keysOf Hin) h h' H' w'
theorem lvU_cons {X : Type} {fn : Func} {R : Ending → World → Prop} {F : Nat} {vs caps : List Value} {ds : List Deferred} {u u' : FrameMode} {Hin H1 : List Res} {Φ : X → Hp → List Res → Prop} (is : List Nat) (hF : callB P F = true) (hp : pickRs is H = some (Hin, H1)) (hu : u ≠ .run) (hc : CRD P F (vs ++ caps) u u' h Hin Φ)
    (k : ∀ x h' H', Φ x h' H' → h.Le h' → LvU P fn R (settle u') n ds w0 M h0 f h' (H' ++ H1)) : LvU P fn R u n (⟨.fn (.func F) caps.toArray, vs.toArray⟩ :: ds) w0 M h0 f h H := fun a w hsz ha hs => by
 have hs' := hs.swap (pickRs_perm hp)
 have he : vs.toArray ++ caps.toArray = (vs ++ caps).toArray := by simp
 refine leaves_cons (f := F) (args := (vs ++ caps).toArray) hu (by simp only [invoke, he, call_spec hF]) ?_
 refine (hc w hs.sub hs'.own').mono fun e u2 w' ⟨x, h', H', h1, ⟨v, h2⟩, hΦ, ht⟩ => ?_
 subst h1 h2
 exact k x h' H' hΦ ht.le a w' hsz ha (hs'.after ht)
theorem lvU_ret {fn : Func} {R : Ending → World → Prop} {v : Value} (hres : ∀ a w, Holds n [] f a → St w0 M h0 h H w → (results fn a.tmps).run P w = .ok v w) (k : ∀ w, St w0 M h0 h H w → R (.returned v) w) : LvU P fn R .returning n [] w0 M h0 f h H := fun a w hsz ha hs =>
 ⟨v, hres ⟨a.tmps, []⟩ w ⟨hsz, rfl, ha⟩ hs, k w hs⟩
theorem lvU_pan {fn : Func} {R : Ending → World → Prop} {ch : List PanicEntry} (k : ∀ w, St w0 M h0 h H w → R (.panicked ch) w) : LvU P fn R (.panicking ch) n [] w0 M h0 f h H := fun a w hsz ha hs => k w hs
theorem enterCRD {X : Type} {u : FrameMode} {Φ : X → Hp → List Res → Prop} {F : Nat} {fn : Func} {c : Code} {vs : List Value} (hf : P.funcs[F]? = some fn) (hb : fn.body = some c) (hi : initO 0 vs = some f) (hn : Nat.ble vs.length fn.ntmps = true)
    (k : ∀ w, (∀ x ∈ keysOf H, x < w.heap.size) → Cy P c (bodyPost P fn fun e w' => ∃ x h' H', (∃ v, e = .returned v) ∧ Φ x h' H' ∧ St w (keysOf H) h h' H' w') fn.ntmps [] w (keysOf H) h f h H) : CRD P F vs u u h H Φ :=
 fun w hs ho => by
  refine (callsD_of_wp hf hb (k w ho.lt _ w ⟨?_, rfl, fun i v hiv => ?_⟩ (St.startN hs ho))).mono fun e u2 w' hq => ?_
  · have := Nat.le_of_ble_eq_true hn
    simp
    omega
  · obtain ⟨_, h1⟩ := initO_get hi i v hiv
    have hlt := (List.getElem?_eq_some_iff.1 h1).1
    simp only [Nat.sub_zero] at h1 hlt
    rw [Array.getElem?_append_left (by simpa using hlt)]
    simpa using h1
  · obtain ⟨h1, x, h', H', h2, h3, h4⟩ := hq
    exact ⟨x, h', H', h1, h2, h3, h4⟩
theorem enterRec {X : Type} {i d1 d2 t1 t2 : Nat} {p1 p2 : String} {a1 a2 : Array Edge} {c2 : Code} {v : Value} {Φ : X → Hp → List Res → Prop} {F : Nat} {fn : Func} {vs : List Value} (hf : P.funcs[F]? = some fn)
    (hb : fn.body = some (.seq (.region i #[⟨some d1, .call ⟨.builtin .recover, #[], #[]⟩, t1, p1, a1, none⟩, ⟨some d2, .assign (.tmp d1), t2, p2, a2, none⟩] false) c2)) (hi : initO 0 vs = some f) (hn : Nat.ble vs.length fn.ntmps = true) (hd1 : Nat.blt d1 fn.ntmps = true) (hd2 : Nat.blt d2 fn.ntmps = true)
    (k : ∀ w, (∀ x ∈ keysOf H, x < w.heap.size) → Cy P c2 (bodyPost P fn fun e w' => ∃ x h' H', (∃ v, e = .returned v) ∧ Φ x h' H' ∧ St w (keysOf H) h h' H' w') fn.ntmps [] w (keysOf H) h ((d2, v) :: (d1, v) :: f) h H) :
    CRD P F vs (.panicking [{ v := v, recovered := false }]) (.panicking [{ v := v, recovered := true }]) h H Φ :=
 fun w hs ho => by
  have hst := St.startN hs ho
  refine callsD_of_wpS hf hb fun c0 cs hc0 => ?_
  have ha : Holds fn.ntmps [] f { tmps := vs.toArray ++ Array.replicate (fn.ntmps - vs.toArray.size) undef, defers := [] } := by
   refine ⟨?_, rfl, fun i v hiv => ?_⟩
   · have := Nat.le_of_ble_eq_true hn
     simp
     omega
   · obtain ⟨_, h1⟩ := initO_get hi i v hiv
     have hlt := (List.getElem?_eq_some_iff.1 h1).1
     simp only [Nat.sub_zero] at h1 hlt
     rw [Array.getElem?_append_left (by simpa using hlt)]
     simpa using h1
  refine wpS_seq (wpS_region ?_)
  have hr : ∀ ev : Operand → Value, (execOp ev ⟨some d1, .call ⟨.builtin .recover, #[], #[]⟩, t1, p1, a1, none⟩).run P w = .ok .recover w := fun ev => rfl
  have ha1 := ha.put d1 v hd1
  have hev := ha1.ev (v := v) (x := .tmp d1) (by simp [Tab.ev, Tab.get])
  have hrec : recoverD (c0 :: cs) = some (v, { c0 with mode := .panicking [{ v := v, recovered := true }] } :: cs) := by
   simp [recoverD, hc0]
  show wpOpsS P _ _ [0, 1] _ _ _
  generalize hA0 : ({ tmps := vs.toArray ++ Array.replicate (fn.ntmps - vs.toArray.size) undef, defers := [] } : Act) = A0 at ha ha1 hev ⊢
  simp only [wpOpsS, List.getElem?_toArray, List.getElem?_cons_zero, List.getElem?_cons_succ, Region.wanted, if_true, hr, hrec]
  have h2 : (execOp (A0.put (some d1) v).eval ⟨some d2, .assign (.tmp d1), t2, p2, a2, none⟩).run P w = .ok (.value v) w := by
   simp [execOp, hev]
  rw [h2]
  refine wpS_of_wp (wp_mono (k w ho.lt _ w (ha1.put d2 v hd2) hst) ?_)
  intro e a' w' hq
  cases e with
  | normal =>
   obtain ⟨h1, v', h3, x, h', H', h4, h5, h6⟩ := hq
   exact ⟨h1, _, rfl, v', h3, x, h', H', rfl, h4, h5, h6⟩
  | ret =>
   obtain ⟨h1, v', h3, x, h', H', h4, h5, h6⟩ := hq
   exact ⟨h1, _, rfl, v', h3, x, h', H', rfl, h4, h5, h6⟩
  | panic ch =>
   obtain ⟨h1, x, h', H', ⟨v', h4⟩, h5, h6⟩ := hq
   cases h4
  | exit i => exact hq.elim
  | goto i => exact hq.elim
  | outgrown =>
   obtain ⟨x, h', H', ⟨v', h4⟩, h5, h6⟩ := hq
   cases h4
end
end Go.Proofs.YtanhhihechakhaaDoor.E
set_option linter.unusedVariables false
set_option linter.unusedSimpArgs false
namespace Go.Proofs.YtanhhihechakhaaDoor.ReplP
open Go.RowKit Go.Proofs.YtanhhihechakhaaDoor.E
def sps : List UInt8 := [10, 92, 39]
def isSp (c : UInt8) : Bool := c == 10 || c == 92 || c == 39
def rep (c : UInt8) : List UInt8 := if c = 10 then [92, 110] else if c = 92 then [92, 92] else if c = 39 then [39, 39] else []
def one (c : UInt8) : List UInt8 := if isSp c then rep c else [c]
def repl (l : List UInt8) : List UInt8 := l.flatMap one
/-! the table -/
def rT (f : UInt8 → Value) (v : Value) : List Value := ((List.range 256).map fun i => f (UInt8.ofNat i)) ++ [v]
def ReplT (h : Hp) (T x : Nat) : Prop := ∃ (rA : UInt8 → Option Addr) (rk : UInt8 → Nat) (A3 : Option Addr) (k3 : Nat), h x = some (.cells (rT (fun c => .slice (rA c) (rep c).length (rk c)) (.slice A3 3 k3)).toArray T (0, 0)) ∧ (∀ c, (rA c).isNone = !isSp c) ∧
 (∀ c, isSp c = true → RowsAt h (rA c) 1 ((rep c).map byteC)) ∧ RowsAt h A3 1 (sps.map fun c => [Value.string ⟨#[c]⟩])
theorem ReplT.le {h h' : Hp} {T x : Nat} (ht : ReplT h T x) (hl : h.Le h') : ReplT h' T x := by
 obtain ⟨rA, rk, A3, k3, h1, h2, h3, h4⟩ := ht
 exact ⟨rA, rk, A3, k3, hl _ _ h1, h2, fun c hc => (h3 c hc).le hl, h4.le hl⟩
def bv (u : UInt8) : Value := .int .u8 (u.toNat : Int)
end Go.Proofs.YtanhhihechakhaaDoor.ReplP
set_option linter.unusedVariables false
set_option linter.unusedSimpArgs false
namespace Go.Proofs.YtanhhihechakhaaDoor.E
open Go.RowKit
theorem ext_run {P : Program} {F : Nat} {fn : Func} {e : Array Value → Sem Value} {vs : Array Value} {v : Value} {w w' : World} (hf : P.funcs[F]? = some fn) (hname : (fn.name == "runtime.NumGoroutine") = false) (hb : fn.body.isNone = true) (hn : Extern.findNext fn = none) (he : Extern.find fn = some e)
    (hr : (e vs).run P w = .ok v w') : (callFunc F vs).run P w = .ok (.value v) w' := by rw [run_callFunc_extern hf hname hb hn he, hr]; rfl
theorem ba_at {s : ByteArray} {i : Nat} {u : UInt8} (h : s.data.toList[i]? = some u) : s[((i : Nat) : Int).toNat]? = some u := by
 have hl := (List.getElem?_eq_some_iff.1 h).1
 have hi : i < s.size := by simpa using hl
 have e : ((i : Nat) : Int).toNat = i := Int.toNat_natCast i
 rw [e, getElem?_pos s i hi]
 have h2 := (List.getElem?_eq_some_iff.1 h).2
 rw [← h2]
 rfl
theorem ba_eta (s : ByteArray) : (⟨s.data.toList.toArray⟩ : ByteArray) = s := by
 obtain ⟨⟨l⟩⟩ := s
 rfl
end Go.Proofs.YtanhhihechakhaaDoor.E
namespace Go.Proofs.YtanhhihechakhaaDoor.ReplP
open Go.RowKit Go.Proofs.YtanhhihechakhaaDoor.E
end Go.Proofs.YtanhhihechakhaaDoor.ReplP
set_option linter.unusedVariables false
set_option linter.unusedSimpArgs false
namespace Go.Proofs.YtanhhihechakhaaDoor.E
open Go.RowKit
end Go.Proofs.YtanhhihechakhaaDoor.E
namespace Go.Proofs.YtanhhihechakhaaDoor.TokP
open Go.RowKit Go.Proofs.YtanhhihechakhaaDoor.E Go.Proofs.YtanhhihechakhaaDoor.ReplP
def smallB (c : UInt8) : Bool := decide ((97 : Int) ≤ (c.toNat : Int)) && decide ((c.toNat : Int) ≤ 122)
def bigB (c : UInt8) : Bool := (decide ((65 : Int) ≤ (c.toNat : Int)) && decide ((c.toNat : Int) ≤ 90)) || ((c.toNat : Int) == 95)
def digitB (c : UInt8) : Bool := decide ((48 : Int) ≤ (c.toNat : Int)) && decide ((c.toNat : Int) ≤ 57)
def letterB (c : UInt8) : Bool := smallB c || bigB c || digitB c
def signL : List UInt8 := [43, 45, 42, 47, 92, 94, 60, 62, 61, 126, 58, 46, 63, 64, 35, 38, 36]
def signB (c : UInt8) : Bool := signL.contains c
def blankB (c : UInt8) : Bool := (((c.toNat : Int) == 9) || ((c.toNat : Int) == 10)) || ((c.toNat : Int) == 13) || ((c.toNat : Int) == 32)
def lineB (c : UInt8) : Bool := !((c.toNat : Int) == 10)
theorem idx_has : ∀ (l : List UInt8) (c : UInt8), decide (0 ≤ Lib.indexByte l c) = l.contains c
 | [], c => rfl
 | b :: l, c => by
  have h1 := idx_has l c
  have h2 := Lib.indexByte_ge l c
  have e : Lib.indexByte (b :: l) c = if (b == c) = true then 0 else if (Lib.indexByte l c == -1) = true then -1 else Lib.indexByte l c + 1 := by rw [Lib.indexByte]
  rw [List.contains_cons, ← h1, e]
  clear e
  by_cases hb : (b == c) = true
  · rw [if_pos hb]
    have : (c == b) = true := beq_iff_eq.2 (beq_iff_eq.1 hb).symm
    rw [this]
    rfl
  · rw [if_neg hb]
    have : (c == b) = false := by
     have hb' : (b == c) = false := by simpa using hb
     rw [beq_eq_false_iff_ne] at hb' ⊢
     exact fun h => hb' h.symm
    rw [this, Bool.false_or]
    by_cases h3 : (Lib.indexByte l c == -1) = true
    · rw [if_pos h3]
      have h4 : Lib.indexByte l c = -1 := by simpa using h3
      rw [h4]
    · rw [if_neg h3]
      have h4 : ¬ Lib.indexByte l c = -1 := by simpa using h3
      exact decide_eq_decide.2 (by omega)
/-! how many bytes of one kind a text begins with -/
def runB (p : UInt8 → Bool) (l : List UInt8) : Nat := (l.takeWhile p).length
theorem runB_le (p : UInt8 → Bool) (l : List UInt8) : runB p l ≤ l.length := (List.takeWhile_prefix p).length_le
theorem runB_yes {p : UInt8 → Bool} {c : UInt8} {l : List UInt8} (h : p c = true) : runB p (c :: l) = runB p l + 1 := by simp [runB, h]
theorem runB_no {p : UInt8 → Bool} {c : UInt8} {l : List UInt8} (h : p c = false) : runB p (c :: l) = 0 := by simp [runB, h]
theorem run_end {p : UInt8 → Bool} : ∀ {l : List UInt8} {i : Nat}, (l.take i).all p = true → l.length ≤ i → runB p l = l.length
 | [], _, _, _ => rfl
 | c :: l, 0, _, hl => by simp at hl
 | c :: l, i + 1, h, hl => by
  rw [List.take_succ_cons, List.all_cons, Bool.and_eq_true] at h
  rw [runB_yes h.1, run_end h.2 (by simpa using hl)]
  rfl
theorem run_at {p : UInt8 → Bool} : ∀ {l : List UInt8} {i : Nat} {e : UInt8}, (l.take i).all p = true → l[i]? = some e → p e = false → runB p l = i
 | [], i, e, _, he, _ => by simp at he
 | c :: l, 0, e, _, he, hp => by
  simp only [List.getElem?_cons_zero, Option.some.injEq] at he
  subst he
  exact runB_no hp
 | c :: l, i + 1, e, h, he, hp => by
  rw [List.take_succ_cons, List.all_cons, Bool.and_eq_true] at h
  rw [runB_yes h.1, run_at h.2 (by simpa using he) hp]
theorem all_snoc {p : UInt8 → Bool} {l : List UInt8} {i : Nat} {x : UInt8} (h : l[i]? = some x) : (l.take (i + 1)).all p = ((l.take i).all p && p x) := by
 rw [List.take_add_one, h, List.all_append]
 simp
/-! plain names -/
def firstB (p : UInt8 → Bool) : List UInt8 → Bool
 | [] => false
 | c :: _ => p c
def plainB (l : List UInt8) : Bool := if (l == [] || l == [46]) = true then false else if ((l == [91, 93] || l == [33]) || l == [59]) = true then true else (firstB smallB l && l.all letterB) || l.all signB
/-! what is passed over -/
def skipN : List UInt8 → Nat
 | [] => 0
 | c :: l => if c = 37 then (if runB lineB l = l.length then l.length + 1 else runB lineB l + 2 + skipN (l.drop (runB lineB l + 1))) else if blankB c = true then 1 + skipN l else 0
termination_by l => l.length
decreasing_by
 · simp
   omega
 · simp
end Go.Proofs.YtanhhihechakhaaDoor.TokP
set_option linter.unusedVariables false
set_option linter.unusedSimpArgs false
namespace Go.Proofs.YtanhhihechakhaaDoor.TokP
open Go.RowKit Go.Proofs.YtanhhihechakhaaDoor.E Go.Proofs.YtanhhihechakhaaDoor.ReplP
theorem ext_from (s : ByteArray) (i : Nat) : (s.extract i s.size).data.toList = s.data.toList.drop i := by
 obtain ⟨⟨l⟩⟩ := s
 simp [ByteArray.size]
 rw [List.take_of_length_le (by rw [List.length_drop]; exact Nat.le_refl _)]
theorem ext_to (s : ByteArray) (i : Nat) : (s.extract 0 i).data.toList = s.data.toList.take i := by
 obtain ⟨⟨l⟩⟩ := s
 simp
theorem drop_at {l : List UInt8} {i : Nat} {e : UInt8} (h : l[i]? = some e) : l.drop i = e :: l.drop (i + 1) := by
 have hl := (List.getElem?_eq_some_iff.1 h).1
 rw [List.drop_eq_getElem_cons hl, (List.getElem?_eq_some_iff.1 h).2]
theorem skip_nil : skipN [] = 0 := by rw [skipN]
theorem skip_cons (c : UInt8) (l : List UInt8) : skipN (c :: l) = if c = 37 then (if runB lineB l = l.length then l.length + 1 else runB lineB l + 2 + skipN (l.drop (runB lineB l + 1))) else if blankB c = true then 1 + skipN l else 0 := by rw [skipN]
theorem line_pct : lineB 37 = true := rfl
section
variable {l : List UInt8} {i : Nat} {e : UInt8}
theorem skip_blank (h : l[i]? = some e) (h1 : ¬ e = 37) (h2 : blankB e = true) : i + 1 + skipN (l.drop (i + 1)) = i + skipN (l.drop i) := by
 rw [drop_at h, skip_cons, if_neg h1, if_pos h2]
 omega
theorem skip_stop (h : l[i]? = some e) (h1 : ¬ e = 37) (h2 : blankB e = false) : skipN (l.drop i) = 0 := by
 rw [drop_at h, skip_cons, if_neg h1, h2]
 rfl
theorem skip_run (h : l[i]? = some e) (h1 : e = 37) : runB lineB (l.drop i) = runB lineB (l.drop (i + 1)) + 1 := by
 rw [drop_at h, h1, runB_yes line_pct]
theorem skip_last (h : l[i]? = some e) (h1 : e = 37) (h2 : i + runB lineB (l.drop i) = l.length) : i + skipN (l.drop i) = l.length := by
 have hl := (List.getElem?_eq_some_iff.1 h).1
 rw [skip_run h h1] at h2
 have h3 : runB lineB (l.drop (i + 1)) = (l.drop (i + 1)).length := by rw [List.length_drop]; omega
 rw [drop_at h, skip_cons, if_pos h1, if_pos h3, List.length_drop]
 omega
theorem skip_remark (h : l[i]? = some e) (h1 : e = 37) (h2 : ¬ i + runB lineB (l.drop i) = l.length) : i + runB lineB (l.drop i) + 1 ≤ l.length ∧ (i + runB lineB (l.drop i) + 1) + skipN (l.drop (i + runB lineB (l.drop i) + 1)) = i + skipN (l.drop i) := by
 have hl := (List.getElem?_eq_some_iff.1 h).1
 have h4 := runB_le lineB (l.drop i)
 rw [List.length_drop] at h4
 refine ⟨by omega, ?_⟩
 rw [skip_run h h1] at h2 h4
 have h3 : ¬ runB lineB (l.drop (i + 1)) = (l.drop (i + 1)).length := by rw [List.length_drop]; omega
 have h5 : skipN (l.drop i) = runB lineB (l.drop (i + 1)) + 2 + skipN ((l.drop (i + 1)).drop (runB lineB (l.drop (i + 1)) + 1)) := by rw [drop_at h, skip_cons, if_pos h1, if_neg h3]
 have h6 : (l.drop (i + 1)).drop (runB lineB (l.drop (i + 1)) + 1) = l.drop (i + runB lineB (l.drop i) + 1) := by
  rw [List.drop_drop, skip_run h h1]
  congr 1
  omega
 rw [h6] at h5
 rw [h5, skip_run h h1]
 omega
end
theorem skip_le : ∀ (k : Nat) (l : List UInt8), l.length ≤ k → skipN l ≤ l.length
 | _, [], _ => by rw [skip_nil]; exact Nat.le_refl _
 | 0, _ :: _, h => by simp at h
 | k + 1, c :: l, h => by
  have hl : l.length ≤ k := by simpa using h
  rw [skip_cons, List.length_cons]
  split
  · split
    · exact Nat.le_refl _
    · have h1 := skip_le k (l.drop (runB lineB l + 1)) (by rw [List.length_drop]; omega)
      have h2 := runB_le lineB l
      rw [List.length_drop] at h1
      omega
  · split
    · have := skip_le k l hl
      omega
    · exact Nat.zero_le _
/-! ends and escapes -/
def pointB : List UInt8 → Bool
 | [] => false
 | c :: _ => c == 46
theorem point_take (l : List UInt8) : (l.take 1 == [46]) = pointB l := by
 cases l with
 | nil => rfl
 | cons c t => simp [pointB]
theorem point_nil {l : List UInt8} (h : ¬ 1 ≤ l.length) : pointB l = false := by
 cases l with
 | nil => rfl
 | cons c t => simp at h
theorem point_some {l : List UInt8} (h : pointB l = true) : 1 ≤ l.length := by
 cases l with
 | nil => simp [pointB] at h
 | cons c t => simp
def afterB : Option UInt8 → Bool
 | none => false
 | some d => blankB d || ((d.toNat : Int) == 37)
def endsB (l : List UInt8) : Bool := pointB l && (((l.length : Int) == 1) || afterB l[1]?)
def esc (c : UInt8) : Option UInt8 := if ((c.toNat : Int) == 92) = true then some c else if ((c.toNat : Int) == 39) = true then some c else if ((c.toNat : Int) == 110) = true then some 10 else none
end Go.Proofs.YtanhhihechakhaaDoor.TokP
set_option linter.unusedVariables false
set_option linter.unusedSimpArgs false
namespace Go.Proofs.YtanhhihechakhaaDoor.E
open Go.RowKit
section
variable {m : Md} {P : Program} {ops : Array Oper} {Q : Exit → Act → World → Prop} {n : Nat} {D : List Deferred} {w0 : World} {M : List Nat} {h0 : Hp}
variable {f : Tab} {h : Hp} {H : List Res} {rest : List Oper} {o : Oper}
variable {d t s : Nat} {p : String} {af : Array Edge} {g : Option (Nat × Bool)}
theorem sy_subK {x y : Operand} {ik : IntKind} {m1 m2 z : Int} {s2 : Nat} (hx : f.ev x = some (.int ik m1)) (hy : f.ev y = some (.int ik m2)) (hz : ik.wrap (m1 - m2) = z) (hw : gok ops f g = some true) (hn : Nat.blt d n = true)
    (k : Sy m P ops Q n D w0 M h0 rest ((d, .int ik z) :: f) h H) : Sy m P ops Q n D w0 M h0 (⟨some d, .binOp .sub s x y s2, t, p, af, g⟩ :: rest) f h H := sy_sub hx hy hw hn (by rw [hz]; exact k)
theorem sy_addK {x y : Operand} {ik : IntKind} {m1 m2 z : Int} {s2 : Nat} (hx : f.ev x = some (.int ik m1)) (hy : f.ev y = some (.int ik m2)) (hz : ik.wrap (m1 + m2) = z) (hw : gok ops f g = some true) (hn : Nat.blt d n = true)
    (k : Sy m P ops Q n D w0 M h0 rest ((d, .int ik z) :: f) h H) : Sy m P ops Q n D w0 M h0 (⟨some d, .binOp .add s x y s2, t, p, af, g⟩ :: rest) f h H := sy_add hx hy hw hn (by rw [hz]; exact k)
theorem sy_mulK {x y : Operand} {ik : IntKind} {m1 m2 z : Int} {s2 : Nat} (hx : f.ev x = some (.int ik m1)) (hy : f.ev y = some (.int ik m2)) (hz : ik.wrap (m1 * m2) = z) (hw : gok ops f g = some true) (hn : Nat.blt d n = true)
    (k : Sy m P ops Q n D w0 M h0 rest ((d, .int ik z) :: f) h H) : Sy m P ops Q n D w0 M h0 (⟨some d, .binOp .mul s x y s2, t, p, af, g⟩ :: rest) f h H := sy_mul hx hy hw hn (by rw [hz]; exact k)
theorem sy_convK {x : Operand} {i1 i2 : IntKind} {mm z : Int} {s2 : Nat} (hs : P.underlying s = some (.int i1)) (ht : P.underlying s2 = some (.int i2)) (hx : f.ev x = some (.int i1 mm)) (hz : i2.wrap mm = z) (hw : gok ops f g = some true) (hn : Nat.blt d n = true)
    (k : Sy m P ops Q n D w0 M h0 rest ((d, .int i2 z) :: f) h H) : Sy m P ops Q n D w0 M h0 (⟨some d, .convert s s2 x, t, p, af, g⟩ :: rest) f h H := sy_conv hs ht hx hw hn (by rw [hz]; exact k)
theorem run_quoU {a b z : Int} (h1 : 0 < b) (hz : Int.tdiv a b = z) (hl : 0 ≤ z) (hu : z ≤ 18446744073709551615) (w : World) : (binOp .quo s (.int .u64 a) (.int .u64 b)).run P w = .ok (.int .u64 z) w := by
 have h5 : ¬ b = 0 := by omega
 have h6 : ¬ b = -1 := by omega
 subst hz
 simp [binOp, Op.intDiv, h5, IntWalk.u64_in (Int.tdiv a b) ⟨hl, hu⟩]
theorem sy_quoU {x y : Operand} {m1 m2 z : Int} {s2 : Nat} (hx : f.ev x = some (.int .u64 m1)) (hy : f.ev y = some (.int .u64 m2)) (h1 : 0 < m2) (hz : Int.tdiv m1 m2 = z) (hl : 0 ≤ z) (hu : z ≤ 18446744073709551615) (hw : gok ops f g = some true) (hn : Nat.blt d n = true)
    (k : Sy m P ops Q n D w0 M h0 rest ((d, .int .u64 z) :: f) h H) : Sy m P ops Q n D w0 M h0 (⟨some d, .binOp .quo s x y s2, t, p, af, g⟩ :: rest) f h H :=
 sy_bin hx hy ⟨by simp, by simp⟩ (fun w => run_quoU h1 hz hl hu w) hw hn k
theorem rescT {fn : Func} {t u u2 ty e l : Nat} {fr : Nat × Nat} {b : Nat} {cs vs : List Value} {v2 v3 : Value} {H1 : List Res} (i : Nat) (hr : fn.results = #[.cell t ty, .tmp u, .tmp u2]) (hty : aggB P ty l = true) (hv : f.get t = some (.pointer (some ⟨b, 0, none⟩))) (hu : f.get u = some v2) (hu2 : f.get u2 = some v3)
    (hp : pickR i H = some (.blk b (.cells cs.toArray e fr), H1)) (hc : sliceO 0 l cs = some vs) :
    ∀ a w, Holds n [] f a → St w0 M h0 h H w → (results fn a.tmps).run P w = .ok (.tuple #[.agg vs.toArray, v2, v3]) w := fun a w ha hs => by
 have h1 := ha.get t _ hv
 have h2 := ha.get u v2 hu
 have h2b := ha.get u2 v3 hu2
 have hb : w.heap[b]? = some (.cells cs.toArray e fr) := (hs.swap (pickR_perm hp)).ok _ (List.mem_cons_self)
 obtain ⟨h5, h6⟩ := agg_spec hty w
 obtain ⟨h7, h8⟩ := sliceO_spec hc
 subst h7
 have h3 := run_loadCells_list (P := P) w ⟨b, 0, none⟩ vs (fun j u hj => by
  rw [Addr.add_at]
  have := h8 j u hj
  simp only [Nat.zero_add] at this ⊢
  simp [World.cell?, hb, this])
 simp [results, hr, h1, h2, h2b, asAddr, loadVar, h5, h6, h3]
end
end Go.Proofs.YtanhhihechakhaaDoor.E
namespace Go.Proofs.YtanhhihechakhaaDoor.TokP
open Go.RowKit Go.Proofs.YtanhhihechakhaaDoor.E Go.Proofs.YtanhhihechakhaaDoor.ReplP
structure Ans where
 kind : Int
 str : ByteArray
 num : Int
 quo : Bool
 used : Nat
 err : Option (ByteArray × Int)
def Ans.tok (k : Int) (s : ByteArray) (n : Int) (q : Bool) (used : Nat) : Ans := ⟨k, s, n, q, used, none⟩
def Ans.bad (what : ByteArray) (e : Int) : Ans := ⟨0, ⟨#[]⟩, 0, false, 0, some (what, e)⟩
def errV (T : Nat) : Option (ByteArray × Int) → Value
 | none => .nilIface
 | some x => .iface T (.agg #[.string x.1, .int .i64 x.2])
def ansV (T : Nat) (a : Ans) : Value := .tuple #[.agg #[.int .i64 a.kind, .string a.str, .int .i64 a.num, .bool a.quo, .bool false], .int .i64 (a.used : Int), errV T a.err]
def valN (l : List UInt8) : Nat := l.foldl (fun a c => 10 * a + (c.toNat - 48)) 0
theorem valN_snoc (l : List UInt8) (c : UInt8) : valN (l ++ [c]) = 10 * valN l + (c.toNat - 48) := by simp [valN]
theorem valN_succ {l : List UInt8} {i : Nat} {c : UInt8} (h : l[i]? = some c) : valN (l.take (i + 1)) = 10 * valN (l.take i) + (c.toNat - 48) := by
 rw [List.take_add_one, h]
 exact valN_snoc _ c
theorem foldl_ge : ∀ (l : List UInt8) (a : Nat), a ≤ l.foldl (fun a c => 10 * a + (c.toNat - 48)) a
 | [], a => Nat.le_refl _
 | c :: l, a => by
  rw [List.foldl_cons]
  have := foldl_ge l (10 * a + (c.toNat - 48))
  omega
theorem valN_le (l : List UInt8) (i : Nat) : valN (l.take i) ≤ valN l := by
 have e : l.take i ++ l.drop i = l := List.take_append_drop i l
 have h1 : valN l = (l.drop i).foldl (fun a c => 10 * a + (c.toNat - 48)) (valN (l.take i)) := by
  conv => lhs; rw [← e]
  unfold valN
  rw [List.foldl_append]
 rw [h1]
 exact foldl_ge _ _
theorem run_yes {p : UInt8 → Bool} : ∀ {l : List UInt8} {c : UInt8}, c ∈ l.take (runB p l) → p c = true
 | [], c, h => by simp [runB] at h
 | b :: l, c, h => by
  cases hb : p b with
  | false =>
   rw [runB_no hb] at h
   simp at h
  | true =>
   rw [runB_yes hb, List.take_succ_cons] at h
   rcases List.mem_cons.1 h with rfl | h
   · exact hb
   · exact run_yes h
def dotB : Option UInt8 → Bool
 | none => false
 | some c => (c.toNat : Int) == 46
def digO : Option UInt8 → Bool
 | none => false
 | some c => digitB c
def dottedB (l : List UInt8) (n : Nat) : Bool := (decide (((n : Int) + 1) < (l.length : Int)) && dotB l[n]?) && digO l[n + 1]?
def w1 : ByteArray := ⟨#[97, 32, 110, 117, 109, 98, 101, 114, 32, 119, 105, 116, 104, 32, 97, 32, 112, 111, 105, 110, 116]⟩
def w2 : ByteArray := ⟨#[97, 32, 110, 117, 109, 98, 101, 114]⟩
def figs (l : List UInt8) : List UInt8 := l.take (runB digitB l)
def numA (l : List UInt8) : Ans := if dottedB l (runB digitB l) = true then .bad w1 4 else if 9223372036854775808 < valN (figs l) then .bad w2 2 else .tok 3 ⟨#[]⟩ (IntKind.i64.wrap ((valN (figs l) : Nat) : Int)) false (runB digitB l)
theorem figs_len (l : List UInt8) : (figs l).length = runB digitB l := by
 unfold figs
 rw [List.length_take, Nat.min_eq_left (runB_le _ _)]
theorem figs_dig {l : List UInt8} {i : Nat} {c : UInt8} (h : (figs l)[i]? = some c) : 48 ≤ c.toNat ∧ c.toNat ≤ 57 := by
 have h1 := run_yes (List.mem_of_getElem? h)
 unfold digitB at h1
 rw [Bool.and_eq_true, decide_eq_true_iff, decide_eq_true_iff] at h1
 omega
end Go.Proofs.YtanhhihechakhaaDoor.TokP
set_option linter.unusedVariables false
set_option linter.unusedSimpArgs false
namespace Go.Proofs.YtanhhihechakhaaDoor.TokP
open Go.RowKit Go.Proofs.YtanhhihechakhaaDoor.E Go.Proofs.YtanhhihechakhaaDoor.ReplP
def q1 : ByteArray := ⟨#[97, 32, 98, 97, 99, 107, 115, 108, 97, 115, 104]⟩
def q2 : ByteArray := ⟨#[97, 32, 98, 121, 116, 101, 32, 111, 102, 32, 97, 32, 110, 97, 109, 101]⟩
def q3 : ByteArray := ⟨#[97, 32, 110, 97, 109, 101, 32, 119, 105, 116, 104, 111, 117, 116, 32, 97, 110, 32, 101, 110, 100]⟩
def quoL : List UInt8 → List UInt8 → Nat → Ans
 | [], _, _ => .bad q3 4
 | [c], out, k => if c = 39 then .tok 1 ⟨out.toArray⟩ 0 true (k + 1) else if c = 92 then .bad q2 4 else if (c.toNat : Int) < 32 then .bad q2 4 else .bad q3 4
 | c :: d :: t, out, k => if c = 39 then (if d = 39 then quoL t (out ++ [39]) (k + 2) else .tok 1 ⟨out.toArray⟩ 0 true (k + 1))
     else if c = 92 then (match esc d with | some x => quoL t (out ++ [x]) (k + 2) | none => .bad q1 4)
     else if (c.toNat : Int) < 32 then .bad q2 4 else quoL (d :: t) (out ++ [c]) (k + 1)
section
variable {l out : List UInt8} {i : Nat} {c d : UInt8}
theorem quo_none (h : l.length ≤ i) : quoL (l.drop i) out i = .bad q3 4 := by rw [List.drop_eq_nil_of_le h, quoL]
theorem drop_two (h1 : l[i]? = some c) (h2 : l[i + 1]? = some d) : l.drop i = c :: d :: l.drop (i + 2) := by rw [drop_at h1, drop_at h2]
theorem drop_one (h1 : l[i]? = some c) (h2 : ¬ i + 1 < l.length) : l.drop i = [c] := by rw [drop_at h1, List.drop_eq_nil_of_le (by omega)]
theorem quo_mark (h1 : l[i]? = some 39) (h2 : l[i + 1]? = some 39) : quoL (l.drop (i + 2)) (out ++ [39]) (i + 2) = quoL (l.drop i) out i := by
 rw [drop_two h1 h2, quoL, if_pos rfl, if_pos rfl]
theorem quo_end (h1 : l[i]? = some 39) (h2 : ¬ l[i + 1]? = some 39) : quoL (l.drop i) out i = .tok 1 ⟨out.toArray⟩ 0 true (i + 1) := by
 by_cases hl : i + 1 < l.length
 · have h3 : l[i + 1]? = some (l[i + 1]'hl) := List.getElem?_eq_getElem hl
   rw [drop_two h1 h3, quoL, if_pos rfl, if_neg (fun h => h2 (by rw [h3, h]))]
 · rw [drop_one h1 hl, quoL, if_pos rfl]
theorem quo_esc {x : UInt8} (h1 : l[i]? = some 92) (h2 : l[i + 1]? = some d) (h3 : esc d = some x) : quoL (l.drop (i + 2)) (out ++ [x]) (i + 2) = quoL (l.drop i) out i := by
 rw [drop_two h1 h2, quoL, if_neg (by decide), if_pos rfl, h3]
theorem quo_bad (h1 : l[i]? = some 92) (h2 : l[i + 1]? = some d) (h3 : esc d = none) : quoL (l.drop i) out i = .bad q1 4 := by
 rw [drop_two h1 h2, quoL, if_neg (by decide), if_pos rfl, h3]
theorem quo_slash (h1 : l[i]? = some 92) (h2 : ¬ i + 1 < l.length) : quoL (l.drop i) out i = .bad q2 4 := by
 rw [drop_one h1 h2, quoL, if_neg (by decide), if_pos rfl]
theorem quo_low (h1 : l[i]? = some c) (h39 : ¬ c = 39) (h92 : ¬ c = 92) (h : (c.toNat : Int) < 32) : quoL (l.drop i) out i = .bad q2 4 := by
 by_cases hl : i + 1 < l.length
 · rw [drop_two h1 (List.getElem?_eq_getElem hl), quoL, if_neg h39, if_neg h92, if_pos h]
 · rw [drop_one h1 hl, quoL, if_neg h39, if_neg h92, if_pos h]
theorem quo_byte (h1 : l[i]? = some c) (h39 : ¬ c = 39) (h92 : ¬ c = 92) (h : ¬ (c.toNat : Int) < 32) : quoL (l.drop (i + 1)) (out ++ [c]) (i + 1) = quoL (l.drop i) out i := by
 by_cases hl : i + 1 < l.length
 · have h3 : l[i + 1]? = some (l[i + 1]'hl) := List.getElem?_eq_getElem hl
   rw [drop_two h1 h3, quoL, if_neg h39, if_neg h92, if_neg h, drop_at h3]
 · rw [drop_one h1 hl, quoL, if_neg h39, if_neg h92, if_neg h, List.drop_eq_nil_of_le (by omega), quoL]
theorem quo_markC (h1 : l[i]? = some c) (h39 : c = 39) (h2 : l[i + 1]? = some d) (h39b : d = 39) : quoL (l.drop (i + 2)) (out ++ [c]) (i + 2) = quoL (l.drop i) out i := by
 subst h39 h39b
 exact quo_mark h1 h2
theorem quo_endC (h1 : l[i]? = some c) (h39 : c = 39) (h2 : ∀ d, l[i + 1]? = some d → ¬ d = 39) : quoL (l.drop i) out i = .tok 1 ⟨out.toArray⟩ 0 true (i + 1) := by
 subst h39
 exact quo_end h1 (fun h => h2 39 h rfl)
theorem quo_escC {x : UInt8} (h1 : l[i]? = some c) (h92 : c = 92) (h2 : l[i + 1]? = some d) (h3 : esc d = some x) : quoL (l.drop (i + 2)) (out ++ [x]) (i + 2) = quoL (l.drop i) out i := by
 subst h92
 exact quo_esc h1 h2 h3
theorem quo_badC (h1 : l[i]? = some c) (h92 : c = 92) (h2 : l[i + 1]? = some d) (h3 : esc d = none) : quoL (l.drop i) out i = .bad q1 4 := by
 subst h92
 exact quo_bad h1 h2 h3
theorem quo_slashC (h1 : l[i]? = some c) (h92 : c = 92) (h2 : ¬ i + 1 < l.length) : quoL (l.drop i) out i = .bad q2 4 := by
 subst h92
 exact quo_slash h1 h2
end
def quoA (l : List UInt8) : Ans := quoL (l.drop 1) [] 1
end Go.Proofs.YtanhhihechakhaaDoor.TokP
set_option linter.unusedVariables false
set_option linter.unusedSimpArgs false
namespace Go.Proofs.YtanhhihechakhaaDoor.TokP
open Go.RowKit Go.Proofs.YtanhhihechakhaaDoor.E Go.Proofs.YtanhhihechakhaaDoor.ReplP
def punctL : List UInt8 := [40, 41, 91, 93, 44, 124]
def b1 : ByteArray := ⟨#[97, 32, 98, 121, 116, 101]⟩
def firstT (k : Int) (l : List UInt8) (n : Nat) : Ans := .tok k ⟨(l.take n).toArray⟩ 0 false n
def oneC (c : UInt8) (l : List UInt8) : Ans :=
 if smallB c = true then firstT 1 l (runB letterB l) else if bigB c = true then firstT 2 l (runB letterB l) else if digitB c = true then numA l else if ((c.toNat : Int) == 39) = true then quoA l
 else if punctL.contains c = true then firstT 4 l 1 else if (((c.toNat : Int) == 33) || ((c.toNat : Int) == 59)) = true then firstT 1 l 1 else if endsB l = true then firstT 5 l 1 else if signB c = true then firstT 1 l (runB signB l) else .bad b1 4
theorem ext_take (s : ByteArray) (i : Nat) : s.extract 0 i = ⟨(s.data.toList.take i).toArray⟩ := by
 rw [← ext_to, ba_eta]
end Go.Proofs.YtanhhihechakhaaDoor.TokP
set_option linter.unusedVariables false
set_option linter.unusedSimpArgs false
namespace Go.Proofs.YtanhhihechakhaaDoor.TokP
open Go.RowKit Go.Proofs.YtanhhihechakhaaDoor.E Go.Proofs.YtanhhihechakhaaDoor.ReplP
structure Tk where
 a : Ans
 tight : Bool
def tkC (t : Tk) : List Value := [.int .i64 t.a.kind, .string t.a.str, .int .i64 t.a.num, .bool t.a.quo, .bool t.tight]
inductive Sc where
 | ok (ts : List Tk)
 | bad (at_ : Nat) (what : ByteArray) (e : Int)
def n1 : ByteArray := ⟨#[97, 32, 110, 97, 109, 101]⟩
def errA (a : Ans) : Option (ByteArray × Int) := if a.err = none ∧ 64 < a.str.size then some (n1, 3) else a.err
def firstC : List UInt8 → UInt8
 | [] => 0
 | c :: _ => c
def scanF (l : List UInt8) : Nat → Nat → List Tk → Sc
 | 0, _, acc => .ok acc
 | k + 1, i, acc =>
  if i + skipN (l.drop i) = l.length then .ok acc
  else match errA (oneC (firstC (l.drop (i + skipN (l.drop i)))) (l.drop (i + skipN (l.drop i)))) with
   | some x => .bad (i + skipN (l.drop i)) x.1 x.2
   | none => scanF l k (i + skipN (l.drop i) + (oneC (firstC (l.drop (i + skipN (l.drop i)))) (l.drop (i + skipN (l.drop i)))).used) (acc ++ [⟨oneC (firstC (l.drop (i + skipN (l.drop i)))) (l.drop (i + skipN (l.drop i))), decide (skipN (l.drop i) = 0) && decide (0 < acc.length)⟩])
theorem run_first {p : UInt8 → Bool} {c : UInt8} {l : List UInt8} (h : p c = true) : 1 ≤ runB p (c :: l) := by rw [runB_yes h]; omega
theorem num_used {c : UInt8} {l : List UInt8} (h : digitB c = true) (he : (numA (c :: l)).err = none) : 1 ≤ (numA (c :: l)).used ∧ (numA (c :: l)).used ≤ (c :: l).length := by
 unfold numA at he ⊢
 split at he
 · cases he
 · rename_i h1
   rw [if_neg h1]
   split at he
   · cases he
   · rename_i h2
     rw [if_neg h2]
     exact ⟨run_first h, runB_le _ _⟩
theorem quo_used (l : List UInt8) : ∀ (m : Nat) (r out : List UInt8) (k : Nat), r.length ≤ m → k + r.length = l.length → (quoL r out k).err = none → 1 ≤ (quoL r out k).used ∧ (quoL r out k).used ≤ l.length := by
 intro m
 induction m with
 | zero =>
  intro r out k hr hk he
  have : r = [] := List.eq_nil_of_length_eq_zero (by omega)
  subst this
  rw [quoL] at he
  cases he
 | succ m ih =>
  intro r out k hr hk he
  match r, hr, hk, he with
  | [], _, _, he => rw [quoL] at he; cases he
  | [c], _, hk, he =>
   rw [quoL] at he ⊢
   simp only [List.length_cons, List.length_nil] at hk
   split at he
   · rename_i h1
     rw [if_pos h1]
     exact ⟨by show 1 ≤ k + 1; omega, by show k + 1 ≤ _; omega⟩
   · split at he
     · cases he
     · split at he <;> cases he
  | c :: d :: t, hr, hk, he =>
   rw [quoL] at he ⊢
   simp only [List.length_cons] at hk hr
   by_cases h39 : c = 39
   · rw [if_pos h39] at he ⊢
     by_cases hd : d = 39
     · rw [if_pos hd] at he ⊢
       exact ih t _ (k + 2) (by omega) (by omega) he
     · rw [if_neg hd] at he ⊢
       exact ⟨by show 1 ≤ k + 1; omega, by show k + 1 ≤ _; omega⟩
   · rw [if_neg h39] at he ⊢
     by_cases h92 : c = 92
     · rw [if_pos h92] at he ⊢
       cases hx : esc d with
       | none => rw [hx] at he; cases he
       | some x =>
        rw [hx] at he
        exact ih t _ (k + 2) (by omega) (by omega) he
     · rw [if_neg h92] at he ⊢
       by_cases hlow : (c.toNat : Int) < 32
       · rw [if_pos hlow] at he; cases he
       · rw [if_neg hlow] at he ⊢
         exact ih (d :: t) _ (k + 1) (by simp only [List.length_cons]; omega) (by simp only [List.length_cons]; omega) he
theorem one_used {c : UInt8} {l : List UInt8} (he : (oneC c (c :: l)).err = none) : 1 ≤ (oneC c (c :: l)).used ∧ (oneC c (c :: l)).used ≤ (c :: l).length := by
 have h1 : 1 ≤ (c :: l).length := by simp
 unfold oneC at he ⊢
 split at he
 · rename_i h; rw [if_pos h]; exact ⟨run_first (by unfold letterB; rw [h]; rfl), runB_le _ _⟩
 rename_i h
 rw [if_neg h]
 split at he
 · rename_i h; rw [if_pos h]; exact ⟨run_first (by unfold letterB; rw [h]; simp), runB_le _ _⟩
 rename_i h
 rw [if_neg h]
 split at he
 · rename_i h; rw [if_pos h]; exact num_used h he
 rename_i h
 rw [if_neg h]
 split at he
 · rename_i h; rw [if_pos h]; exact quo_used (c :: l) l.length l [] 1 (Nat.le_refl _) (by simp; omega) he
 rename_i h
 rw [if_neg h]
 split at he
 · rename_i h; rw [if_pos h]; exact ⟨Nat.le_refl _, h1⟩
 rename_i h
 rw [if_neg h]
 split at he
 · rename_i h; rw [if_pos h]; exact ⟨Nat.le_refl _, h1⟩
 rename_i h
 rw [if_neg h]
 split at he
 · rename_i h; rw [if_pos h]; exact ⟨Nat.le_refl _, h1⟩
 rename_i h
 rw [if_neg h]
 split at he
 · rename_i h; rw [if_pos h]; exact ⟨run_first h, runB_le _ _⟩
 · cases he
section
variable {l : List UInt8} {i k : Nat} {acc : List Tk}
theorem skip_room (hi : i ≤ l.length) : i + skipN (l.drop i) ≤ l.length := by
 have := skip_le (l.drop i).length (l.drop i) (Nat.le_refl _)
 rw [List.length_drop] at this
 omega
theorem scan_done (h : i + skipN (l.drop i) = l.length) : scanF l (k + 1) i acc = .ok acc := by rw [scanF, if_pos h]
theorem scan_bad {x : ByteArray × Int} (h : ¬ i + skipN (l.drop i) = l.length) (he : errA (oneC (firstC (l.drop (i + skipN (l.drop i)))) (l.drop (i + skipN (l.drop i)))) = some x) : scanF l (k + 1) i acc = .bad (i + skipN (l.drop i)) x.1 x.2 := by rw [scanF, if_neg h, he]
theorem scan_more (h : ¬ i + skipN (l.drop i) = l.length) (he : errA (oneC (firstC (l.drop (i + skipN (l.drop i)))) (l.drop (i + skipN (l.drop i)))) = none) : scanF l (k + 1) i acc = scanF l k (i + skipN (l.drop i) + (oneC (firstC (l.drop (i + skipN (l.drop i)))) (l.drop (i + skipN (l.drop i)))).used) (acc ++ [⟨oneC (firstC (l.drop (i + skipN (l.drop i)))) (l.drop (i + skipN (l.drop i))), decide (skipN (l.drop i) = 0) && decide (0 < acc.length)⟩]) := by rw [scanF, if_neg h, he]
theorem err_none {a : Ans} (h : errA a = none) : a.err = none := by
 unfold errA at h
 split at h
 · cases h
 · exact h
theorem scan_used (hi : i ≤ l.length) (h : ¬ i + skipN (l.drop i) = l.length) (he : errA (oneC (firstC (l.drop (i + skipN (l.drop i)))) (l.drop (i + skipN (l.drop i)))) = none) : i + 1 ≤ i + skipN (l.drop i) + (oneC (firstC (l.drop (i + skipN (l.drop i)))) (l.drop (i + skipN (l.drop i)))).used ∧ i + skipN (l.drop i) + (oneC (firstC (l.drop (i + skipN (l.drop i)))) (l.drop (i + skipN (l.drop i)))).used ≤ l.length := by
 have h1 := skip_room hi
 have hlt : i + skipN (l.drop i) < l.length := by omega
 have h2 := drop_at (List.getElem?_eq_getElem hlt)
 have h3 := err_none he
 rw [h2] at h3 ⊢
 have h4 := one_used h3
 simp only [firstC]
 have h5 : (l[i + skipN (l.drop i)] :: l.drop (i + skipN (l.drop i) + 1)).length = l.length - (i + skipN (l.drop i)) := by rw [← h2, List.length_drop]
 have h6 : (oneC l[i + skipN (l.drop i)] (l[i + skipN (l.drop i)] :: l.drop (i + skipN (l.drop i) + 1))).used ≤ l.length - (i + skipN (l.drop i)) := Nat.le_trans h4.2 (Nat.le_of_eq h5)
 have h7 : 1 ≤ (oneC l[i + skipN (l.drop i)] (l[i + skipN (l.drop i)] :: l.drop (i + skipN (l.drop i) + 1))).used := h4.1
 omega
theorem scan_fuel : ∀ (k1 k2 i : Nat) (acc : List Tk), i ≤ l.length → l.length + 1 ≤ i + k1 → l.length + 1 ≤ i + k2 → scanF l k1 i acc = scanF l k2 i acc
 | 0, _, i, acc, hi, h1, _ => by omega
 | _, 0, i, acc, hi, _, h2 => by omega
 | k1 + 1, k2 + 1, i, acc, hi, h1, h2 => by
  by_cases h : i + skipN (l.drop i) = l.length
  · rw [scan_done h, scan_done h]
  · cases he : errA (oneC (firstC (l.drop (i + skipN (l.drop i)))) (l.drop (i + skipN (l.drop i)))) with
    | some x => rw [scan_bad h he, scan_bad h he]
    | none =>
     rw [scan_more h he, scan_more h he]
     have hu := scan_used hi h he
     exact scan_fuel k1 k2 _ _ hu.2 (by omega) (by omega)
end
def scanA (l : List UInt8) : Sc := if 4096 < l.length then .bad 0 ⟨#[97, 32, 116, 101, 120, 116]⟩ 3 else scanF l (l.length + 1) 0 []
end Go.Proofs.YtanhhihechakhaaDoor.TokP
set_option linter.unusedVariables false
set_option linter.unusedSimpArgs false
namespace Go.Proofs.YtanhhihechakhaaDoor.TokP
open Go.RowKit Go.Proofs.YtanhhihechakhaaDoor.E Go.Proofs.YtanhhihechakhaaDoor.ReplP
def one1 (r : List UInt8) : Ans := oneC (firstC r) r
inductive Lx : Bool → List UInt8 → List Tk → Prop
 | done {b : Bool} {l : List UInt8} (h : skipN l = l.length) : Lx b l []
 | tok {b : Bool} {l r : List UInt8} {a : Ans} {ts : List Tk} (h : ¬ skipN l = l.length) (hr : r = l.drop (skipN l)) (ha : a = one1 r) (he : errA a = none) (k : Lx true (r.drop a.used) ts) : Lx b l (⟨a, decide (skipN l = 0) && b⟩ :: ts)
inductive Lb : List UInt8 → Nat → ByteArray × Int → Prop
 | bad {l r : List UInt8} {x : ByteArray × Int} (h : ¬ skipN l = l.length) (hr : r = l.drop (skipN l)) (he : errA (one1 r) = some x) : Lb l (skipN l) x
 | tok {l r : List UInt8} {a : Ans} {i : Nat} {x : ByteArray × Int} (h : ¬ skipN l = l.length) (hr : r = l.drop (skipN l)) (ha : a = one1 r) (he : errA a = none) (k : Lb (r.drop a.used) i x) : Lb l (skipN l + a.used + i) x
theorem skip_lt {l : List UInt8} (h : ¬ skipN l = l.length) : skipN l < l.length := by
 have := skip_le l.length l (Nat.le_refl _)
 omega
theorem one1_used {r : List UInt8} (hr : 1 ≤ r.length) (he : errA (one1 r) = none) : 1 ≤ (one1 r).used ∧ (one1 r).used ≤ r.length := by
 cases r with
 | nil => simp at hr
 | cons c t => exact one_used (err_none he)
theorem lx_scan {l : List UInt8} : ∀ (k i : Nat) (acc : List Tk), i ≤ l.length → l.length + 1 ≤ i + k →
    (∃ ts, Lx (decide (0 < acc.length)) (l.drop i) ts ∧ scanF l k i acc = .ok (acc ++ ts)) ∨ (∃ j x, Lb (l.drop i) j x ∧ scanF l k i acc = .bad (i + j) x.1 x.2)
 | 0, i, acc, hi, hk => by omega
 | k + 1, i, acc, hi, hk => by
  by_cases h : i + skipN (l.drop i) = l.length
  · exact .inl ⟨[], .done (by rw [List.length_drop]; omega), by rw [scan_done h, List.append_nil]⟩
  · have hne : ¬ skipN (l.drop i) = (l.drop i).length := by rw [List.length_drop]; omega
    have hdd : l.drop (i + skipN (l.drop i)) = (l.drop i).drop (skipN (l.drop i)) := by rw [List.drop_drop]
    cases he : errA (oneC (firstC (l.drop (i + skipN (l.drop i)))) (l.drop (i + skipN (l.drop i)))) with
    | some x =>
     refine .inr ⟨_, x, .bad hne rfl (by rw [← hdd]; exact he), ?_⟩
     rw [scan_bad h he]
    | none =>
     have hu := scan_used hi h he
     have e1 : one1 ((l.drop i).drop (skipN (l.drop i))) = oneC (firstC (l.drop (i + skipN (l.drop i)))) (l.drop (i + skipN (l.drop i))) := by rw [← hdd]; rfl
     have hd2 : ∀ u : Nat, l.drop (i + skipN (l.drop i) + u) = ((l.drop i).drop (skipN (l.drop i))).drop u := fun u => by rw [List.drop_drop, List.drop_drop]; congr 1; omega
     rcases lx_scan k _ (acc ++ [⟨oneC (firstC (l.drop (i + skipN (l.drop i)))) (l.drop (i + skipN (l.drop i))), decide (skipN (l.drop i) = 0) && decide (0 < acc.length)⟩]) hu.2 (by omega) with ⟨ts, h1, h2⟩ | ⟨j, x, h1, h2⟩
     · refine .inl ⟨_ :: ts, .tok hne rfl e1.symm he ?_, ?_⟩
       · rw [hd2] at h1
         have hb : decide (0 < (acc ++ [(⟨oneC (firstC (l.drop (i + skipN (l.drop i)))) (l.drop (i + skipN (l.drop i))), decide (skipN (l.drop i) = 0) && decide (0 < acc.length)⟩ : Tk)]).length) = true := by simp
         rw [hb] at h1
         exact h1
       · rw [scan_more h he, h2, List.append_assoc]
         rfl
     · refine .inr ⟨_, x, .tok hne rfl e1.symm he (by rw [hd2] at h1; exact h1), ?_⟩
       rw [scan_more h he, h2]
       congr 1
       omega
theorem lx_det {b : Bool} {l : List UInt8} {ts : List Tk} (h : Lx b l ts) : ∀ {ts' : List Tk}, Lx b l ts' → ts = ts' := by
 induction h with
 | done h =>
  intro ts' h'
  cases h' with
  | done => rfl
  | tok h2 => exact absurd h h2
 | tok h hr ha he k ih =>
  intro ts' h'
  cases h' with
  | done h2 => exact absurd h2 h
  | tok h2 hr2 ha2 he2 k2 =>
   subst hr hr2 ha ha2
   rw [ih k2]
theorem lx_lb {b : Bool} {l : List UInt8} {ts : List Tk} (h : Lx b l ts) : ∀ {j : Nat} {x : ByteArray × Int}, ¬ Lb l j x := by
 induction h with
 | done h =>
  intro j x h'
  cases h' with
  | bad h2 => exact h2 h
  | tok h2 => exact h2 h
 | tok h hr ha he k ih =>
  intro j x h'
  cases h' with
  | bad h2 hr2 he2 =>
   subst hr hr2 ha
   rw [he] at he2
   cases he2
  | tok h2 hr2 ha2 he2 k2 =>
   subst hr hr2 ha ha2
   exact ih k2
theorem scan_or {l : List UInt8} (hl : l.length ≤ 4096) : (∃ ts, Lx false l ts ∧ scanA l = .ok ts) ∨ (∃ j x, Lb l j x ∧ scanA l = .bad j x.1 x.2) := by
 have h := lx_scan (l := l) (l.length + 1) 0 [] (Nat.zero_le _) (by omega)
 unfold scanA
 rw [if_neg (by omega)]
 rcases h with ⟨ts, h1, h2⟩ | ⟨j, x, h1, h2⟩
 · exact .inl ⟨ts, h1, h2⟩
 · exact .inr ⟨j, x, h1, by rw [h2, Nat.zero_add]⟩
theorem scan_ok {l : List UInt8} (hl : l.length ≤ 4096) {ts : List Tk} (h : Lx false l ts) : scanA l = .ok ts := by
 rcases scan_or hl with ⟨ts', h1, h2⟩ | ⟨j, x, h1, _⟩
 · rw [h2, lx_det h h1]
 · exact absurd h1 (lx_lb h)
/-! blanks ahead -/
def padB (p : List UInt8) : Prop := ∀ x, skipN (p ++ x) = p.length + skipN x
section
variable {p : List UInt8} (hp : padB p)
include hp
theorem pad_drop (x : List UInt8) : (p ++ x).drop (skipN (p ++ x)) = x.drop (skipN x) := by
 rw [hp, List.drop_append, List.drop_eq_nil_of_le (by omega), List.nil_append]
 congr 1
 omega
theorem pad_ne {x : List UInt8} (h : ¬ skipN x = x.length) : ¬ skipN (p ++ x) = (p ++ x).length := by
 rw [hp, List.length_append]
 omega
end
/-! what tokens are -/
structure Fair (t : Tk) : Prop where
 kind : 1 ≤ t.a.kind ∧ t.a.kind ≤ 5
 num : ¬ t.a.kind = 3 → t.a.num = 0
 str : t.a.kind = 3 → t.a.str = ⟨#[]⟩
 quo : t.a.quo = true → t.a.kind = 1
 size : t.a.str.size ≤ 64
 used : t.a.quo = false → t.a.str.size ≤ t.a.used
theorem err_size {a : Ans} (h : errA a = none) : a.str.size ≤ 64 := by
 unfold errA at h
 split at h
 · cases h
 · rename_i h2
   have h3 : ¬ 64 < a.str.size := fun h4 => h2 ⟨h, h4⟩
   omega
theorem first_fair {k : Int} {l : List UInt8} {n : Nat} (hk : 1 ≤ k ∧ k ≤ 5) (h3 : ¬ k = 3) (tg : Bool) (he : errA (firstT k l n) = none) : Fair ⟨firstT k l n, tg⟩ where
 kind := hk
 num := fun _ => rfl
 str := fun h => absurd h h3
 quo := fun h => by cases h
 size := err_size he
 used := fun _ => by
  show (l.take n).length ≤ n
  rw [List.length_take]
  omega
theorem quo_fair : ∀ (m : Nat) (r out : List UInt8) (k : Nat), r.length ≤ m → (quoL r out k).err = none → (quoL r out k).kind = 1 ∧ (quoL r out k).num = 0 ∧ (quoL r out k).quo = true
 | _, [], _, _, _, h => by rw [quoL] at h; cases h
 | 0, _ :: _, _, _, h, _ => by simp at h
 | m + 1, [c], out, k, _, h => by
  rw [quoL] at h ⊢
  split at h
  · rename_i h1; rw [if_pos h1]; exact ⟨rfl, rfl, rfl⟩
  · split at h
    · cases h
    · split at h <;> cases h
 | m + 1, c :: d :: t, out, k, hl, h => by
  have hl2 : t.length + 1 ≤ m := by simpa using hl
  rw [quoL] at h ⊢
  by_cases h39 : c = 39
  · rw [if_pos h39] at h ⊢
    by_cases hd : d = 39
    · rw [if_pos hd] at h ⊢
      exact quo_fair m t _ _ (by omega) h
    · rw [if_neg hd]
      exact ⟨rfl, rfl, rfl⟩
  · rw [if_neg h39] at h ⊢
    by_cases h92 : c = 92
    · rw [if_pos h92] at h ⊢
      cases hx : esc d with
      | none => rw [hx] at h; cases h
      | some x =>
       rw [hx] at h
       exact quo_fair m t _ _ (by omega) h
    · rw [if_neg h92] at h ⊢
      by_cases hlow : (c.toNat : Int) < 32
      · rw [if_pos hlow] at h; cases h
      · rw [if_neg hlow] at h ⊢
        exact quo_fair m (d :: t) _ _ (by simpa using hl2) h
theorem one_fair (r : List UInt8) (tg : Bool) (he : errA (one1 r) = none) : Fair ⟨one1 r, tg⟩ := by
 revert he
 show errA (oneC (firstC r) r) = none → Fair ⟨oneC (firstC r) r, tg⟩
 unfold oneC
 split
 · exact first_fair (by decide) (by decide) tg
 split
 · exact first_fair (by decide) (by decide) tg
 split
 · intro he
   have h1 := err_none he
   unfold numA at h1 ⊢
   split at h1
   · cases h1
   rename_i hd
   rw [if_neg hd]
   split at h1
   · cases h1
   rename_i hb
   rw [if_neg hb]
   exact ⟨(by show (1 : Int) ≤ 3 ∧ (3 : Int) ≤ 5; decide), fun h => absurd rfl h, fun _ => rfl, (fun h => by cases h), (by show 0 ≤ 64; omega), fun _ => Nat.zero_le _⟩
 split
 · intro he
   have h1 := quo_fair (r.drop 1).length (r.drop 1) [] 1 (Nat.le_refl _) (err_none he)
   refine ⟨?_, fun _ => h1.2.1, fun h => ?_, fun _ => h1.1, err_size he, fun h => ?_⟩
   · show 1 ≤ (quoL (r.drop 1) [] 1).kind ∧ (quoL (r.drop 1) [] 1).kind ≤ 5
     rw [h1.1]; decide
   · have h : (quoL (r.drop 1) [] 1).kind = 3 := h
     rw [h1.1] at h
     cases h
   · have h : (quoL (r.drop 1) [] 1).quo = false := h
     rw [h1.2.2] at h
     cases h
 split
 · exact first_fair (by decide) (by decide) tg
 split
 · exact first_fair (by decide) (by decide) tg
 split
 · exact first_fair (by decide) (by decide) tg
 split
 · exact first_fair (by decide) (by decide) tg
 · intro h; cases h
def sumT (ts : List Tk) : Nat := (ts.map fun t => if t.a.quo = true then 0 else t.a.str.size).sum
theorem lx_fair {b : Bool} {l : List UInt8} {ts : List Tk} (h : Lx b l ts) : (∀ t ∈ ts, Fair t) ∧ sumT ts ≤ l.length ∧ ts.length ≤ l.length ∧ (b = false → ∀ t, ts[0]? = some t → t.tight = false) := by
 induction h with
 | done h => exact ⟨fun t ht => by simp at ht, Nat.zero_le _, Nat.zero_le _, fun _ t ht => by simp at ht⟩
 | @tok b l r a ts h hr ha he k ih =>
  subst hr
  have hlt := skip_lt h
  have hl : (l.drop (skipN l)).length = l.length - skipN l := List.length_drop
  have hf := one_fair (l.drop (skipN l)) (decide (skipN l = 0) && b) (by rw [← ha]; exact he)
  have hu := one1_used (r := l.drop (skipN l)) (by omega) (by rw [← ha]; exact he)
  rw [← ha] at hf hu
  obtain ⟨i1, i2, i3, _⟩ := ih
  have hl2 : ((l.drop (skipN l)).drop a.used).length = l.length - skipN l - a.used := by rw [List.length_drop, hl]
  refine ⟨fun t ht => ?_, ?_, ?_, fun hb t ht => ?_⟩
  · rcases List.mem_cons.1 ht with rfl | ht
    · exact hf
    · exact i1 t ht
  · unfold sumT at i2 ⊢
    rw [List.map_cons, List.sum_cons]
    have : (if a.quo = true then 0 else a.str.size) ≤ a.used := by
     split
     · omega
     · rename_i hq
       exact hf.used (by simpa using hq)
    show (if a.quo = true then 0 else a.str.size) + _ ≤ _
    omega
  · rw [List.length_cons]; omega
  · simp only [List.getElem?_cons_zero, Option.some.injEq] at ht
    subst ht
    show (decide (skipN l = 0) && b) = false
    rw [hb, Bool.and_false]
end Go.Proofs.YtanhhihechakhaaDoor.TokP
set_option linter.unusedVariables false
set_option linter.unusedSimpArgs false
namespace Go.Proofs.YtanhhihechakhaaDoor.TokP
open Go.RowKit Go.Proofs.YtanhhihechakhaaDoor.E Go.Proofs.YtanhhihechakhaaDoor.ReplP
def quoteL (l : List UInt8) (p : Bool) : List UInt8 := if p = true then l else [39] ++ repl l ++ [39]
theorem skip_zero {c : UInt8} {t : List UInt8} (h1 : ¬ c = 37) (h2 : blankB c = false) : skipN (c :: t) = 0 := by rw [skip_cons, if_neg h1, h2]; rfl
theorem sign_kind : ∀ c : UInt8, signB c = true → smallB c = false ∧ bigB c = false ∧ digitB c = false ∧ ((c.toNat : Int) == 39) = false ∧ punctL.contains c = false ∧ (((c.toNat : Int) == 33) || ((c.toNat : Int) == 59)) = false ∧ blankB c = false ∧ ((c.toNat : Int) == 37) = false := by
 have h : ∀ c ∈ signL, smallB c = false ∧ bigB c = false ∧ digitB c = false ∧ ((c.toNat : Int) == 39) = false ∧ punctL.contains c = false ∧ (((c.toNat : Int) == 33) || ((c.toNat : Int) == 59)) = false ∧ blankB c = false ∧ ((c.toNat : Int) == 37) = false := by decide
 intro c hc
 unfold signB at hc
 rw [List.contains_eq_mem, decide_eq_true_iff] at hc
 exact h c hc
theorem small_kind {c : UInt8} (h : smallB c = true) : ¬ c = 37 ∧ blankB c = false := by
 unfold smallB at h
 rw [Bool.and_eq_true, decide_eq_true_iff, decide_eq_true_iff] at h
 have ne : ∀ k : Int, k < 97 → ((c.toNat : Int) == k) = false := fun k hk => by rw [beq_eq_false_iff_ne]; omega
 refine ⟨fun h9 => ?_, ?_⟩
 · rw [h9] at h
   exact absurd h.1 (by decide)
 · unfold blankB
   rw [ne 9 (by omega), ne 10 (by omega), ne 13 (by omega), ne 32 (by omega)]
   rfl
theorem digit_kind {c : UInt8} (h : digitB c = true) : ¬ c = 37 ∧ blankB c = false ∧ smallB c = false ∧ bigB c = false := by
 unfold digitB at h
 rw [Bool.and_eq_true, decide_eq_true_iff, decide_eq_true_iff] at h
 have ne : ∀ k : Int, k < 48 → ((c.toNat : Int) == k) = false := fun k hk => by rw [beq_eq_false_iff_ne]; omega
 refine ⟨fun h9 => ?_, ?_, ?_, ?_⟩
 · rw [h9] at h
   exact absurd h.1 (by decide)
 · unfold blankB
   rw [ne 9 (by omega), ne 10 (by omega), ne 13 (by omega), ne 32 (by omega)]
   rfl
 · unfold smallB
   rw [decide_eq_false (by omega)]
   rfl
 · unfold bigB
   rw [decide_eq_false (by omega), Bool.false_and, Bool.false_or, beq_eq_false_iff_ne]
   omega
theorem fig_byte {n : Nat} (h : n < 10) : (UInt8.ofNat (48 + n)).toNat = 48 + n := by
 rw [UInt8.toNat_ofNat']
 omega
theorem fig_digit {n : Nat} (h : n < 10) : digitB (UInt8.ofNat (48 + n)) = true := by
 unfold digitB
 rw [fig_byte h, decide_eq_true (by omega), decide_eq_true (by omega)]
 rfl
theorem one_digit {c : UInt8} {t : List UInt8} (h : digitB c = true) : one1 (c :: t) = numA (c :: t) := by
 have hk := digit_kind h
 show oneC c (c :: t) = _
 unfold oneC
 rw [hk.2.2.1, hk.2.2.2, h]
 rfl
end Go.Proofs.YtanhhihechakhaaDoor.TokP
set_option linter.unusedVariables false
set_option linter.unusedSimpArgs false
namespace Go.Proofs.YtanhhihechakhaaDoor.TokP
open Go.RowKit Go.Proofs.YtanhhihechakhaaDoor.E Go.Proofs.YtanhhihechakhaaDoor.ReplP
def scTs : Sc → List Tk
 | .ok ts => ts
 | .bad _ _ _ => []
def scE : Sc → Option (ByteArray × Int)
 | .ok _ => none
 | .bad _ w e => some (w, e)
def scAt : Sc → Nat
 | .ok _ => 0
 | .bad i _ _ => i
theorem ba_cat (a b : ByteArray) : (a ++ b).data.toList = a.data.toList ++ b.data.toList := by simp
theorem sc_lx {l : List UInt8} (hl : l.length ≤ 4096) (h : scE (scanA l) = none) : Lx false l (scTs (scanA l)) := by
 rcases scan_or hl with ⟨ts, h1, h2⟩ | ⟨j, x, _, h2⟩
 · rw [h2]
   exact h1
 · rw [h2] at h
   cases h
theorem pad_sp {c : UInt8} (h1 : ¬ c = 37) (h2 : blankB c = true) {p : List UInt8} (hp : padB p) : padB (c :: p) := fun x => by
 rw [List.cons_append, skip_cons, if_neg h1, if_pos h2, hp, List.length_cons]
 omega
theorem pad_nil : padB [] := fun x => by simp
end Go.Proofs.YtanhhihechakhaaDoor.TokP
set_option linter.unusedVariables false
set_option linter.unusedSimpArgs false
namespace Go.Proofs.YtanhhihechakhaaDoor.TermP
open Go.RowKit Go.Proofs.YtanhhihechakhaaDoor.E
inductive Tm where
 | mk (k n : Int) (s : ByteArray) (kids : List Tm)
inductive GT where
 | mk (k n : Int) (s : ByteArray) (A : Option Addr) (c : Nat) (kids : List GT)
namespace Tm
def k : Tm → Int | mk k _ _ _ => k
def n : Tm → Int | mk _ n _ _ => n
def s : Tm → ByteArray | mk _ _ s _ => s
def kids : Tm → List Tm | mk _ _ _ l => l
theorem eta (t : Tm) : Tm.mk t.k t.n t.s t.kids = t := by cases t; rfl
theorem ind {P : Tm → Prop} (h : ∀ k n s kids, (∀ t, t ∈ kids → P t) → P (.mk k n s kids)) : ∀ t, P t := fun t =>
 Tm.rec (motive_1 := P) (motive_2 := fun l => ∀ t, t ∈ l → P t) (fun k n s l ih => h k n s l ih) (fun _ ht => (List.not_mem_nil ht).elim)
  (fun x l hx hl t ht => by
   rcases List.mem_cons.1 ht with rfl | ht
   · exact hx
   · exact hl t ht) t
end Tm
namespace GT
def k : GT → Int | mk k _ _ _ _ _ => k
def n : GT → Int | mk _ n _ _ _ _ => n
def s : GT → ByteArray | mk _ _ s _ _ _ => s
def A : GT → Option Addr | mk _ _ _ A _ _ => A
def c : GT → Nat | mk _ _ _ _ c _ => c
def kids : GT → List GT | mk _ _ _ _ _ l => l
theorem ind {P : GT → Prop} (h : ∀ k n s A c kids, (∀ t, t ∈ kids → P t) → P (.mk k n s A c kids)) : ∀ t, P t := fun t =>
 GT.rec (motive_1 := P) (motive_2 := fun l => ∀ t, t ∈ l → P t) (fun k n s A c l ih => h k n s A c l ih) (fun _ ht => (List.not_mem_nil ht).elim)
  (fun x l hx hl t ht => by
   rcases List.mem_cons.1 ht with rfl | ht
   · exact hx
   · exact hl t ht) t
def cells (t : GT) : List Value := [.int .i64 t.k, .int .i64 t.n, .string t.s, .slice t.A t.kids.length t.c]
mutual
/-- what is meant -/
def tm : GT → Tm | mk k n s _ _ kids => .mk k n s (tms kids)
def tms : List GT → List Tm | [] => [] | t :: l => tm t :: tms l
end
theorem tms_map : ∀ l : List GT, tms l = l.map tm
 | [] => by simp [tms]
 | t :: l => by simp [tms, tms_map l]
theorem tm_mk (k n : Int) (s : ByteArray) (A : Option Addr) (c : Nat) (kids : List GT) : (GT.mk k n s A c kids).tm = .mk k n s (kids.map tm) := by rw [tm, tms_map]
theorem tm_kids (t : GT) : t.tm.kids = t.kids.map tm := by cases t; rw [tm_mk]; rfl
theorem tm_k (t : GT) : t.tm.k = t.k := by cases t; rw [tm_mk]; rfl
theorem tm_n (t : GT) : t.tm.n = t.n := by cases t; rw [tm_mk]; rfl
theorem tm_s (t : GT) : t.tm.s = t.s := by cases t; rw [tm_mk]; rfl
theorem cells_len : ∀ l : List GT, ∀ c ∈ l.map cells, c.length = 4 := fun l c hc => by
 obtain ⟨t, _, rfl⟩ := List.mem_map.1 hc
 rfl
theorem cells_ones (l : List GT) : ∀ u ∈ (l.map cells).flatten, u.oneCell' = true := fun u hu => by
 obtain ⟨c, hc, hu⟩ := List.mem_flatten.1 hu
 obtain ⟨e, _, rfl⟩ := List.mem_map.1 hc
 simp only [cells, List.mem_cons, List.not_mem_nil, or_false] at hu
 rcases hu with rfl | rfl | rfl | rfl <;> rfl
theorem cells_snoc (l : List GT) (t : GT) : ((l ++ [t]).map cells).flatten = (l.map cells).flatten ++ [.int .i64 t.k, .int .i64 t.n, .string t.s, .slice t.A t.kids.length t.c] := by
 rw [List.map_append, List.flatten_append]
 simp [cells]
end GT
inductive Lies (h : Hp) : GT → Prop
 | intro (k n : Int) (s : ByteArray) (A : Option Addr) (c : Nat) (kids : List GT) (hc : kids.length ≤ c) (hr : RowsAt h A 4 (kids.map GT.cells)) (hk : ∀ t, t ∈ kids → Lies h t) : Lies h (.mk k n s A c kids)
theorem Lies.rows {h : Hp} {k n : Int} {s : ByteArray} {A : Option Addr} {c : Nat} {kids : List GT} (hl : Lies h (.mk k n s A c kids)) : RowsAt h A 4 (kids.map GT.cells) := by cases hl; assumption
theorem Lies.cap {h : Hp} {k n : Int} {s : ByteArray} {A : Option Addr} {c : Nat} {kids : List GT} (hl : Lies h (.mk k n s A c kids)) : kids.length ≤ c := by cases hl; assumption
theorem Lies.kid {h : Hp} {k n : Int} {s : ByteArray} {A : Option Addr} {c : Nat} {kids : List GT} (hl : Lies h (.mk k n s A c kids)) {t : GT} (ht : t ∈ kids) : Lies h t := by
 cases hl with
 | intro _ _ _ _ _ _ _ _ hk => exact hk t ht
theorem Lies.at {h : Hp} {k n : Int} {s : ByteArray} {A : Option Addr} {c : Nat} {kids : List GT} (hl : Lies h (.mk k n s A c kids)) {i : Nat} {t : GT} (ht : kids[i]? = some t) : Lies h t := hl.kid (List.mem_of_getElem? ht)
theorem Lies.le {h h' : Hp} (hh : h.Le h') : ∀ {t : GT}, Lies h t → Lies h' t := fun {t} => by
 induction t using GT.ind with
 | h k n s A c kids ih =>
  intro hl
  exact .intro k n s A c kids hl.cap (hl.rows.le hh) (fun t ht => ih t ht (hl.kid ht))
inductive Fits : GT → Prop
 | intro (k n : Int) (s : ByteArray) (A : Option Addr) (c : Nat) (kids : List GT) (hk0 : -9223372036854775808 ≤ k) (hk1 : k ≤ 9223372036854775807) (hn0 : -9223372036854775808 ≤ n) (hn1 : n ≤ 9223372036854775807)
     (hs : s.size ≤ 140737488355328) (hb : kids.length * 56 ≤ 140737488355328) (hkid : ∀ t, t ∈ kids → Fits t) : Fits (.mk k n s A c kids)
theorem Fits.kid {k n : Int} {s : ByteArray} {A : Option Addr} {c : Nat} {kids : List GT} (hl : Fits (.mk k n s A c kids)) {t : GT} (ht : t ∈ kids) : Fits t := by
 cases hl with
 | intro _ _ _ _ _ _ _ _ _ _ _ _ hk => exact hk t ht
theorem Fits.at {k n : Int} {s : ByteArray} {A : Option Addr} {c : Nat} {kids : List GT} (hl : Fits (.mk k n s A c kids)) {i : Nat} {t : GT} (ht : kids[i]? = some t) : Fits t := hl.kid (List.mem_of_getElem? ht)
theorem Fits.room {k n : Int} {s : ByteArray} {A : Option Addr} {c : Nat} {kids : List GT} (hl : Fits (.mk k n s A c kids)) : kids.length * 56 ≤ 140737488355328 := by cases hl; assumption
theorem Fits.nums {k n : Int} {s : ByteArray} {A : Option Addr} {c : Nat} {kids : List GT} (hl : Fits (.mk k n s A c kids)) : (-9223372036854775808 ≤ k ∧ k ≤ 9223372036854775807) ∧ (-9223372036854775808 ≤ n ∧ n ≤ 9223372036854775807) ∧ s.size ≤ 140737488355328 := by
 cases hl; exact ⟨⟨by assumption, by assumption⟩, ⟨by assumption, by assumption⟩, by assumption⟩
/-! how many parts -/
mutual
def size : Tm → Nat | .mk _ _ _ kids => 1 + sizes kids
def sizes : List Tm → Nat | [] => 0 | t :: l => size t + sizes l
end
theorem take_snoc {α : Type} {l : List α} {i : Nat} {x : α} (h : l[i]? = some x) : l.take (i + 1) = l.take i ++ [x] := by rw [List.take_add_one, h]; rfl
end Go.Proofs.YtanhhihechakhaaDoor.TermP
set_option linter.unusedVariables false
set_option linter.unusedSimpArgs false
namespace Go.Proofs.YtanhhihechakhaaDoor.WrP
open Go.RowKit Go.Proofs.YtanhhihechakhaaDoor.E Go.Proofs.YtanhhihechakhaaDoor.ReplP Go.Proofs.YtanhhihechakhaaDoor.TokP Go.Proofs.YtanhhihechakhaaDoor.TermP
def qL (s : ByteArray) : List UInt8 := quoteL s.data.toList (plainB s.data.toList)
def brL : ByteArray := ⟨#[91, 93]⟩
def nmL (s : ByteArray) (k : Nat) : List UInt8 := if s = brL ∧ 0 < k then [39, 91, 93, 39] else qL s
mutual
def txt : Tm → List UInt8
 | .mk k n s kids => if k = 1 then 95 :: Lib.itoa n else if k = 2 then Lib.itoa n else if k = 3 then (if kids.length = 0 then qL s else nmL s kids.length ++ [40] ++ txts kids ++ [41]) else if k = 4 ∧ kids.length = 1 then [64, 40] ++ txts kids ++ [44] ++ Lib.itoa n ++ [41] else [63]
def txts : List Tm → List UInt8
 | [] => []
 | t :: r => txt t ++ txtsC r
def txtsC : List Tm → List UInt8
 | [] => []
 | t :: r => [44] ++ txt t ++ txtsC r
end
theorem ba_inj {s t : ByteArray} (h : s.data.toList = t.data.toList) : s = t := by rw [← ba_eta s, ← ba_eta t, h]
end Go.Proofs.YtanhhihechakhaaDoor.WrP
set_option linter.unusedVariables false
set_option linter.unusedSimpArgs false
namespace Go.Proofs.YtanhhihechakhaaDoor.WrP
open Go.RowKit Go.Proofs.YtanhhihechakhaaDoor.E Go.Proofs.YtanhhihechakhaaDoor.ReplP Go.Proofs.YtanhhihechakhaaDoor.TokP Go.Proofs.YtanhhihechakhaaDoor.TermP
def atS : ByteArray := ⟨#[64]⟩
end Go.Proofs.YtanhhihechakhaaDoor.WrP
set_option linter.unusedVariables false
set_option linter.unusedSimpArgs false
namespace Go.Proofs.YtanhhihechakhaaDoor.WrP
open Go.RowKit Go.Proofs.YtanhhihechakhaaDoor.E Go.Proofs.YtanhhihechakhaaDoor.ReplP Go.Proofs.YtanhhihechakhaaDoor.TokP Go.Proofs.YtanhhihechakhaaDoor.TermP
mutual
/-- a term's parts, itself first -/
def partsT : Tm → List Tm | .mk k n s kids => .mk k n s kids :: partsTs kids
def partsTs : List Tm → List Tm | [] => [] | t :: l => partsT t ++ partsTs l
end
mutual
def deepT : Tm → Nat | .mk _ _ _ kids => 1 + deepTs kids
def deepTs : List Tm → Nat | [] => 0 | t :: l => max (deepT t) (deepTs l)
end
theorem parts_mk (k n : Int) (s : ByteArray) (kids : List Tm) : partsT (.mk k n s kids) = .mk k n s kids :: partsTs kids := by rw [partsT]
theorem partsTs_nil : partsTs [] = [] := by rw [partsTs]
theorem partsTs_cons (t : Tm) (l : List Tm) : partsTs (t :: l) = partsT t ++ partsTs l := by rw [partsTs]
def varsF (l : List Int) (ps : List Tm) : List Int := ps.foldl (fun l p => if p.k = 1 ∧ ¬ l.contains p.n = true then l ++ [p.n] else l) l
def varsT (t : Tm) : List Int := varsF [] (partsT t)
def aloneT (lv : Int) : Tm → Bool
 | .mk k n s kids => if k = 1 then decide (0 ≤ n) && decide (n < 4096) && decide (s = ⟨#[]⟩) && decide (kids.length = 0)
  else if k = 2 then decide (s = ⟨#[]⟩) && decide (kids.length = 0)
  else if k = 3 then decide (n = 0) && decide (s.size ≤ 64) && decide (kids.length ≤ 8)
  else if k = 4 then decide (s = ⟨#[]⟩) && decide (0 ≤ n) && decide (n < lv) && decide (kids.length = 1) && decide ((kids.map fun t => (varsT t).length).sum = 0)
  else false
def chkT (lv : Int) (t : Tm) : Int := if 1000 < (partsT t).length then 3 else if 60 < deepT t then 7 else if (partsT t).all (aloneT lv) = true then 0 else 4
end Go.Proofs.YtanhhihechakhaaDoor.WrP
set_option linter.unusedVariables false
set_option linter.unusedSimpArgs false
namespace Go.Proofs.YtanhhihechakhaaDoor.OpsP
abbrev OpT := Int × List UInt8 × List UInt8
def rowsL : List (Int × List UInt8 × List (List UInt8)) :=
 [(1200, [120, 102, 120], [[58, 45]]), (1200, [102, 120], [[58, 45]]), (1150, [120, 102, 120], [[58, 58]]), (1100, [120, 102, 121], [[59]]), (1050, [120, 102, 121], [[45, 62]]), (1000, [120, 102, 121], [[44]]), (900, [102, 121], [[92, 43]]),
  (700, [120, 102, 120], [[61], [92, 61], [61, 61], [92, 61, 61], [64, 60], [105, 115], [61, 58, 61], [61, 92, 61], [60], [62], [61, 60], [62, 61]]), (500, [121, 102, 120], [[43], [45]]), (400, [121, 102, 120], [[42], [47, 47], [109, 111, 100]]), (200, [102, 121], [[45]]), (190, [120, 102, 120], [[64]])]
def opsL : List OpT := rowsL.flatMap fun r => r.2.2.map fun n => (r.1, r.2.1, n)
def hit (L : List UInt8) (k : Int) (o : OpT) : Bool := o.2.2 == L && ((o.2.1.length : Int) == k)
def findL (L : List UInt8) (k : Int) : Option OpT := opsL.find? (hit L k)
def bes (p : Int) (c : UInt8) : Int := if c = 121 then p else p - 1
def infixL (L : List UInt8) : Int × Int × Int × Bool := match findL L 3 with
 | some (p, ty, _) => (bes p (ty.getD 0 0), p, bes p (ty.getD 2 0), true)
 | none => (0, 0, 0, false)
def prefixL (L : List UInt8) : Int × Int × Bool := match findL L 2 with
 | some (p, ty, _) => (p, bes p (ty.getD 1 0), true)
 | none => (0, 0, false)
def refNames : List (List UInt8) := [[61], [92, 61], [61, 61], [92, 61, 61], [64, 60], [105, 115], [61, 58, 61], [61, 92, 61], [60], [62], [61, 60], [62, 61]]
def refInfix (L : List UInt8) : Int × Int × Int × Bool :=
 if L == [58, 45] then (1199, 1200, 1199, true) else
 if L == [58, 58] then (1149, 1150, 1149, true) else
 if L == [59] then (1099, 1100, 1100, true) else
 if L == [45, 62] then (1049, 1050, 1050, true) else
 if L == [44] then (999, 1000, 1000, true) else
 if refNames.any (· == L) then (699, 700, 699, true) else
 if L == [43] || L == [45] then (500, 500, 499, true) else
 if L == [42] || L == [47, 47] || L == [109, 111, 100] then (400, 400, 399, true) else
 if L == [64] then (189, 190, 189, true) else (0, 0, 0, false)
def refPrefix (L : List UInt8) : Int × Int × Bool :=
 if L == [58, 45] then (1200, 1199, true) else
 if L == [92, 43] then (900, 900, true) else
 if L == [45] then (200, 200, true) else (0, 0, false)
def allNames : List (List UInt8) := opsL.map (·.2.2)
theorem names_eq : allNames = [[58, 45], [58, 45], [58, 58], [59], [45, 62], [44], [92, 43], [61], [92, 61], [61, 61], [92, 61, 61], [64, 60], [105, 115], [61, 58, 61], [61, 92, 61], [60], [62], [61, 60], [62, 61], [43], [45], [42], [47, 47], [109, 111, 100], [45], [64]] := by decide
theorem findL_none {L : List UInt8} (k : Int) (h : L ∉ allNames) : findL L k = none := by
 unfold findL
 rw [List.find?_eq_none]
 intro o ho
 unfold hit
 have : ¬ o.2.2 = L := by
  rintro rfl
  exact h (List.mem_map.2 ⟨o, ho, rfl⟩)
 simp [this]
theorem infix_eq (L : List UInt8) : infixL L = refInfix L := by
 by_cases h : L ∈ allNames
 · revert h
   revert L
   rw [names_eq]
   decide
 · unfold infixL
   rw [findL_none 3 h]
   rw [names_eq] at h
   simp only [List.mem_cons, not_or] at h
   simp [refInfix, refNames, h, eq_comm (b := L)]
theorem prefix_eq (L : List UInt8) : prefixL L = refPrefix L := by
 by_cases h : L ∈ allNames
 · revert h
   revert L
   rw [names_eq]
   decide
 · unfold prefixL
   rw [findL_none 2 h]
   rw [names_eq] at h
   simp only [List.mem_cons, not_or] at h
   simp [refPrefix, h]
def cnt (p : OpT → Bool) (l : List OpT) : Int := (l.countP p : Int)
end Go.Proofs.YtanhhihechakhaaDoor.OpsP
set_option linter.unusedVariables false
set_option linter.unusedSimpArgs false
namespace Go.Proofs.YtanhhihechakhaaDoor.ReadP
open Go.RowKit Go.Proofs.YtanhhihechakhaaDoor.E Go.Proofs.YtanhhihechakhaaDoor.TokP Go.Proofs.YtanhhihechakhaaDoor.TermP Go.Proofs.YtanhhihechakhaaDoor.WrP Go.Proofs.YtanhhihechakhaaDoor.OpsP
structure RSt where
 at_ : Nat
 names : List ByteArray
inductive RO (α : Type) where
 | ok (x : α) (s : RSt)
 | bad (at_ : Nat) (e : Int)
structure RT where
 kind : Int
 str : ByteArray
 num : Int
 quo : Bool
 tight : Bool
def rt0 : RT := ⟨0, ⟨#[]⟩, 0, false, false⟩
def rtOf (t : Tk) : RT := ⟨t.a.kind, t.a.str, t.a.num, t.a.quo, t.tight⟩
def tokA (L : List RT) (i : Nat) : RT := (L[i]?).getD rt0
def isP (L : List RT) (i : Nat) (c : List UInt8) : Bool := ((tokA L i).kind == 4) && ((tokA L i).str.data.toList == c)
def lastI : List ByteArray → ByteArray → Option Nat
 | [], _ => none
 | x :: l, s => match lastI l s with
  | some i => some (i + 1)
  | none => if x = s then some 0 else none
def lowS : ByteArray := ⟨#[95]⟩
def letT (n : Int) : Tm := .mk 1 n ⟨#[]⟩ []
def numT (n : Int) : Tm := .mk 2 n ⟨#[]⟩ []
def funT (s : ByteArray) (l : List Tm) : Tm := .mk 3 0 s l
def varR (s : ByteArray) (st : RSt) : Tm × RSt :=
 match lastI st.names s with
 | some i => if s = lowS then (letT st.names.length, ⟨st.at_, st.names ++ [s]⟩) else (letT i, st)
 | none => (letT st.names.length, ⟨st.at_, st.names ++ [s]⟩)
def mkR (lv : Int) (s : ByteArray) (l : List Tm) (st : RSt) : RO Tm :=
 match l with
 | [x, n] => if s = atS then (if n.k = 2 ∧ 0 ≤ n.n ∧ n.n < lv ∧ varsT x = [] then .ok (.mk 4 n.n ⟨#[]⟩ [x]) st else .bad st.at_ 4) else .ok (funT s l) st
 | _ => .ok (funT s l) st
def adv (st : RSt) : RSt := ⟨st.at_ + 1, st.names⟩
abbrev Rd := Int → RSt → RO (Tm × Int)
section
variable (L : List RT) (lv : Int)
def moreR (tm : Rd) : Nat → List Tm → RSt → RO (List Tm)
 | 0, acc, st => .ok acc st
 | n + 1, acc, st => if isP L st.at_ [44] = true then (match tm 999 (adv st) with
     | .ok x s2 => moreR tm n (acc ++ [x.1]) s2
     | .bad a e => .bad a e) else .ok acc st
def argsR (tm : Rd) (st : RSt) : RO (List Tm) := match tm 999 st with
 | .ok x s2 => moreR L tm (L.length + 1) [x.1] s2
 | .bad a e => .bad a e
def wantR {α : Type} (c : List UInt8) (x : α) (st : RSt) : RO α := if isP L st.at_ c = true then .ok x (adv st) else .bad st.at_ 4
def nilT : Tm := funT brL []
def pairS : ByteArray := ⟨#[46]⟩
def pairsR (l : List Tm) (last : Tm) : Tm := l.foldr (fun x r => funT pairS [x, r]) last
def listR (tm : Rd) (st : RSt) : RO Tm :=
 if isP L st.at_ [93] = true then .ok nilT (adv st) else
 match argsR L tm st with
 | .bad a e => .bad a e
 | .ok l s2 => if isP L s2.at_ [124] = true then (match tm 999 (adv s2) with
     | .ok y s3 => wantR L [93] (pairsR l y.1) s3
     | .bad a e => .bad a e) else wantR L [93] (pairsR l nilT) s2
def beginsR (t : RT) : Bool :=
 if t.kind = 3 ∨ t.kind = 2 then true else if t.kind = 4 then (t.str.data.toList == [40]) || (t.str.data.toList == [91]) else if t.kind = 1 then t.quo || !(refInfix t.str.data.toList).2.2.2 else false
def mapR {α β : Type} (f : α → β) : RO α → RO β
 | .ok x s => .ok (f x) s
 | .bad a e => .bad a e
def nameR (tm : Rd) (t : RT) (most : Int) (st : RSt) : RO (Tm × Int) :=
 if (tokA L st.at_).tight = true ∧ isP L st.at_ [40] = true then
  (match argsR L tm (adv st) with
  | .bad a e => .bad a e
  | .ok l s2 => match wantR L [41] l s2 with
   | .bad a e => .bad a e
   | .ok l s3 => mapR (·, 0) (mkR lv t.str l s3))
 else if t.quo = true then .ok (funT t.str [], 0) st
 else if t.str.data.toList = [45] ∧ (tokA L st.at_).tight = true ∧ (tokA L st.at_).kind = 3 then .ok (numT (IntKind.i64.wrap (-(tokA L st.at_).num)), 0) (adv st)
 else if (refPrefix t.str.data.toList).2.2 = true ∧ (refPrefix t.str.data.toList).1 ≤ most ∧ beginsR (tokA L st.at_) = true then
  (match tm (refPrefix t.str.data.toList).2.1 st with
  | .bad a e => .bad a e
  | .ok x s2 => mapR (·, (refPrefix t.str.data.toList).1) (mkR lv t.str [x.1] s2))
 else .ok (funT t.str [], 0) st
def firstR (tm : Rd) (most : Int) (st : RSt) : RO (Tm × Int) :=
 if (tokA L st.at_).kind = 3 ∧ (tokA L st.at_).num < 0 then .bad st.at_ 2
 else if (tokA L st.at_).kind = 3 then .ok (numT (tokA L st.at_).num, 0) (adv st)
 else if (tokA L st.at_).kind = 2 then .ok ((varR (tokA L st.at_).str (adv st)).1, 0) (varR (tokA L st.at_).str (adv st)).2
 else if (tokA L st.at_).kind = 1 then nameR L lv tm (tokA L st.at_) most (adv st)
 else if isP L st.at_ [40] = true then (match tm 1200 (adv st) with
  | .bad a e => .bad a e
  | .ok x s2 => wantR L [41] (x.1, 0) s2)
 else if isP L st.at_ [91] = true then mapR (·, 0) (listR L tm (adv st))
 else .bad st.at_ 4
def goesR (most pri : Int) (st : RSt) : Bool :=
 (((tokA L st.at_).kind == 1) && !(tokA L st.at_).quo || isP L st.at_ [44]) &&
 ((refInfix (tokA L st.at_).str.data.toList).2.2.2 && decide ((refInfix (tokA L st.at_).str.data.toList).2.1 ≤ most) && decide (pri ≤ (refInfix (tokA L st.at_).str.data.toList).1))
def loopR (tm : Rd) (most : Int) : Nat → Tm → Int → RSt → RO (Tm × Int)
 | 0, x, pri, st => .ok (x, pri) st
 | n + 1, x, pri, st => if goesR L most pri st = true then
     (match tm (refInfix (tokA L st.at_).str.data.toList).2.2.1 (adv st) with
     | .bad a e => .bad a e
     | .ok y s2 => match mkR lv (tokA L st.at_).str [x, y.1] s2 with
      | .bad a e => .bad a e
      | .ok z s3 => loopR tm most n z (refInfix (tokA L st.at_).str.data.toList).2.1 s3)
  else .ok (x, pri) st
def readT : Nat → Rd
 | 0 => fun _ st => .bad st.at_ 7
 | 1 => fun _ st => .bad st.at_ 7
 | k + 2 => fun most st => match firstR L lv (readT k) most st with
  | .bad a e => .bad a e
  | .ok x s2 => loopR L lv (readT (k + 1)) most (L.length + 1) x.1 x.2 s2
def readS (i : Nat) : RO Tm := match readT L lv 60 1200 ⟨i, []⟩ with
 | .bad a e => .bad a e
 | .ok x s2 => if (tokA L s2.at_).kind = 5 then (if chkT lv x.1 = 0 then .ok x.1 (adv s2) else .bad (s2.at_ + 1) (chkT lv x.1)) else .bad s2.at_ 4
inductive RA where
 | ok (l : List Tm)
 | bad (at_ : Nat) (e : Int)
def allS : Nat → Nat → List Tm → RA
 | 0, _, acc => .ok acc
 | k + 1, i, acc => if L.length ≤ i then .ok acc else match readS L lv i with
  | .bad a e => .bad a e
  | .ok x s => allS k s.at_ (acc ++ [x])
end
/-! forward -/
def Fwd (L : List RT) (tm : Rd) : Prop := ∀ most st x s, st.at_ ≤ L.length → tm most st = .ok x s → st.at_ < s.at_ ∧ s.at_ ≤ L.length ∧ s.names.length + st.at_ ≤ st.names.length + s.at_
theorem tok_lt {L : List RT} {i : Nat} (h : ¬ (tokA L i).kind = 0) : i < L.length := by
 by_cases hi : i < L.length
 · exact hi
 · exfalso
   apply h
   unfold tokA
   rw [List.getElem?_eq_none (by omega)]
   rfl
theorem isP_lt {L : List RT} {i : Nat} {c : List UInt8} (h : isP L i c = true) : i < L.length := by
 unfold isP at h
 rw [Bool.and_eq_true, beq_iff_eq] at h
 exact tok_lt (by rw [h.1]; decide)
theorem mkR_st {lv : Int} {s : ByteArray} {l : List Tm} {st s2 : RSt} {x : Tm} (h : mkR lv s l st = .ok x s2) : s2 = st := by
 unfold mkR at h
 split at h
 · split at h
   · split at h
     · cases h; rfl
     · cases h
   · cases h; rfl
 · cases h; rfl
theorem varR_at (s : ByteArray) (st : RSt) : (varR s st).2.at_ = st.at_ := by
 unfold varR
 split
 · split <;> rfl
 · rfl
theorem varR_names (s : ByteArray) (st : RSt) : (varR s st).2.names.length ≤ st.names.length + 1 := by
 unfold varR
 split
 · split
   · simp
   · exact Nat.le_succ _
 · simp
theorem want_fwd {α : Type} {L : List RT} {c : List UInt8} {x y : α} {st s : RSt} (h : wantR L c x st = .ok y s) : y = x ∧ s = adv st ∧ st.at_ < L.length := by
 unfold wantR at h
 split at h
 · rename_i hp
   cases h
   exact ⟨rfl, rfl, isP_lt hp⟩
 · cases h
theorem more_fwd {L : List RT} {tm : Rd} (hf : Fwd L tm) : ∀ (n : Nat) (acc : List Tm) (st : RSt) (l : List Tm) (s : RSt), st.at_ ≤ L.length → moreR L tm n acc st = .ok l s → st.at_ ≤ s.at_ ∧ s.at_ ≤ L.length ∧ s.names.length + st.at_ ≤ st.names.length + s.at_
 | 0, acc, st, l, s, h0, h => by cases h; exact ⟨Nat.le_refl _, h0, Nat.le_refl _⟩
 | n + 1, acc, st, l, s, h0, h => by
  unfold moreR at h
  split at h
  · rename_i hp
    have h1 := isP_lt hp
    split at h
    · rename_i x s2 h2
      have h3 := hf _ _ _ _ (show st.at_ + 1 ≤ L.length by omega) h2
      have h4 := more_fwd hf n _ s2 l s h3.2.1 h
      simp only [adv] at h3
      omega
    · cases h
  · cases h; exact ⟨Nat.le_refl _, h0, Nat.le_refl _⟩
theorem more_step {L : List RT} {tm : Rd} {n : Nat} {acc : List Tm} {st s2 : RSt} {x : Tm × Int} (hp : isP L st.at_ [44] = true) (hk : tm 999 (adv st) = .ok x s2) (hn : 1 ≤ n) : moreR L tm n acc st = moreR L tm (n - 1) (acc ++ [x.1]) s2 := by
 obtain ⟨m, rfl⟩ : ∃ m, n = m + 1 := ⟨n - 1, by omega⟩
 conv => lhs; unfold moreR
 rw [if_pos hp, hk]
 rfl
theorem more_bad {L : List RT} {tm : Rd} {n : Nat} {acc : List Tm} {st : RSt} {a : Nat} {e : Int} (hp : isP L st.at_ [44] = true) (hk : tm 999 (adv st) = .bad a e) (hn : 1 ≤ n) : moreR L tm n acc st = .bad a e := by
 obtain ⟨m, rfl⟩ : ∃ m, n = m + 1 := ⟨n - 1, by omega⟩
 unfold moreR
 rw [if_pos hp, hk]
theorem more_end {L : List RT} {tm : Rd} {n : Nat} {acc : List Tm} {st : RSt} (hp : isP L st.at_ [44] = false) : moreR L tm n acc st = .ok acc st := by
 cases n with
 | zero => rfl
 | succ m =>
  unfold moreR
  rw [if_neg (by rw [hp]; decide)]
theorem args_fwd {L : List RT} {tm : Rd} (hf : Fwd L tm) {st : RSt} {l : List Tm} {s : RSt} (h0 : st.at_ ≤ L.length) (h : argsR L tm st = .ok l s) : st.at_ < s.at_ ∧ s.at_ ≤ L.length ∧ s.names.length + st.at_ ≤ st.names.length + s.at_ := by
 unfold argsR at h
 split at h
 · rename_i x s2 h2
   have h3 := hf _ _ _ _ h0 h2
   have h4 := more_fwd hf _ _ _ _ _ h3.2.1 h
   omega
 · cases h
theorem list_fwd {L : List RT} {tm : Rd} (hf : Fwd L tm) {st : RSt} {x : Tm} {s : RSt} (h0 : st.at_ ≤ L.length) (h : listR L tm st = .ok x s) : st.at_ < s.at_ ∧ s.at_ ≤ L.length ∧ s.names.length + st.at_ ≤ st.names.length + s.at_ := by
 unfold listR at h
 have ea : ∀ t : RSt, (adv t).at_ = t.at_ + 1 := fun _ => rfl
 split at h
 · rename_i hp
   have := isP_lt hp
   cases h
   simp only [adv]
   omega
 · split at h
   · cases h
   · rename_i l s2 h2
     have h3 := args_fwd hf h0 h2
     split at h
     · rename_i hp
       have h4 := isP_lt hp
       split at h
       · rename_i y s3 h5
         have h6 := hf _ _ _ _ (show (adv s2).at_ ≤ L.length by rw [ea]; omega) h5
         have h7 := want_fwd h
         simp only [adv] at h6
         rw [h7.2.1]
         simp only [adv]
         omega
       · cases h
     · have h7 := want_fwd h
       rw [h7.2.1]
       simp only [adv]
       omega
theorem map_ok {α β : Type} {f : α → β} {r : RO α} {y : β} {s : RSt} (h : mapR f r = .ok y s) : ∃ x, r = .ok x s ∧ y = f x := by
 cases r with
 | ok x s2 => cases h; exact ⟨x, rfl, rfl⟩
 | bad a e => cases h
theorem name_fwd {L : List RT} {lv : Int} {tm : Rd} (hf : Fwd L tm) {t : RT} {most : Int} {st : RSt} {x : Tm × Int} {s : RSt} (h0 : st.at_ ≤ L.length) (h : nameR L lv tm t most st = .ok x s) : st.at_ ≤ s.at_ ∧ s.at_ ≤ L.length ∧ s.names.length + st.at_ ≤ st.names.length + s.at_ := by
 unfold nameR at h
 have ea : ∀ t : RSt, (adv t).at_ = t.at_ + 1 := fun _ => rfl
 split at h
 · rename_i hp
   have h1 := isP_lt hp.2
   split at h
   · cases h
   · rename_i l s2 h2
     have h3 := args_fwd hf (show (adv st).at_ ≤ L.length by rw [ea]; omega) h2
     split at h
     · cases h
     · rename_i l2 s3 h4
       have h5 := want_fwd h4
       obtain ⟨y, h6, _⟩ := map_ok h
       have h7 := mkR_st h6
       simp only [adv] at h3
       rw [h7, h5.2.1]
       simp only [adv]
       omega
 · split at h
   · cases h; exact ⟨Nat.le_refl _, h0, Nat.le_refl _⟩
   · split at h
     · rename_i hp
       have h1 := tok_lt (L := L) (i := st.at_) (by rw [hp.2.2]; decide)
       cases h
       simp only [adv]
       omega
     · split at h
       · split at h
         · cases h
         · rename_i y s2 h2
           have h3 := hf _ _ _ _ h0 h2
           obtain ⟨z, h6, _⟩ := map_ok h
           have h7 := mkR_st h6
           rw [h7]
           omega
       · cases h; exact ⟨Nat.le_refl _, h0, Nat.le_refl _⟩
theorem first_fwd {L : List RT} {lv : Int} {tm : Rd} (hf : Fwd L tm) : Fwd L (firstR L lv tm) := fun most st x s h0 h => by
 unfold firstR at h
 have ea : ∀ t : RSt, (adv t).at_ = t.at_ + 1 := fun _ => rfl
 split at h
 · cases h
 · split at h
   · rename_i hk
     have h1 := tok_lt (L := L) (i := st.at_) (by rw [hk]; decide)
     cases h
     simp only [adv]
     omega
   · split at h
     · rename_i hk
       have h1 := tok_lt (L := L) (i := st.at_) (by rw [hk]; decide)
       cases h
       rw [varR_at]
       have hvn := varR_names (tokA L st.at_).str (adv st)
       simp only [adv] at hvn ⊢
       omega
     · split at h
       · rename_i hk
         have h1 := tok_lt (L := L) (i := st.at_) (by rw [hk]; decide)
         have h2 := name_fwd hf (show (adv st).at_ ≤ L.length by rw [ea]; omega) h
         simp only [adv] at h2
         omega
       · split at h
         · rename_i hp
           have h1 := isP_lt hp
           split at h
           · cases h
           · rename_i y s2 h2
             have h3 := hf _ _ _ _ (show (adv st).at_ ≤ L.length by rw [ea]; omega) h2
             have h4 := want_fwd h
             simp only [adv] at h3
             rw [h4.2.1]
             simp only [adv]
             omega
         · split at h
           · rename_i hp
             have h1 := isP_lt hp
             obtain ⟨y, h2, _⟩ := map_ok h
             have h3 := list_fwd hf (show (adv st).at_ ≤ L.length by rw [ea]; omega) h2
             simp only [adv] at h3
             omega
           · cases h
theorem goes_lt {L : List RT} {most pri : Int} {st : RSt} (h : goesR L most pri st = true) : st.at_ < L.length := by
 unfold goesR at h
 rw [Bool.and_eq_true, Bool.or_eq_true] at h
 rcases h.1 with h1 | h1
 · rw [Bool.and_eq_true, beq_iff_eq] at h1
   exact tok_lt (by rw [h1.1]; decide)
 · exact isP_lt h1
theorem loop_fwd {L : List RT} {lv : Int} {tm : Rd} (hf : Fwd L tm) (most : Int) : ∀ (n : Nat) (x : Tm) (pri : Int) (st : RSt) (y : Tm × Int) (s : RSt), st.at_ ≤ L.length → loopR L lv tm most n x pri st = .ok y s → st.at_ ≤ s.at_ ∧ s.at_ ≤ L.length ∧ s.names.length + st.at_ ≤ st.names.length + s.at_
 | 0, x, pri, st, y, s, h0, h => by cases h; exact ⟨Nat.le_refl _, h0, Nat.le_refl _⟩
 | n + 1, x, pri, st, y, s, h0, h => by
  unfold loopR at h
  have ea : ∀ t : RSt, (adv t).at_ = t.at_ + 1 := fun _ => rfl
  split at h
  · rename_i hp
    have h1 := goes_lt hp
    split at h
    · cases h
    · rename_i z s2 h2
      have h3 := hf _ _ _ _ (show (adv st).at_ ≤ L.length by rw [ea]; omega) h2
      split at h
      · cases h
      · rename_i z2 s3 h4
        have h5 := mkR_st h4
        subst h5
        have h6 := loop_fwd hf most n _ _ _ y s h3.2.1 h
        simp only [adv] at h3
        omega
  · cases h; exact ⟨Nat.le_refl _, h0, Nat.le_refl _⟩
theorem read_fwd (L : List RT) (lv : Int) : ∀ k : Nat, Fwd L (readT L lv k) := fun k => by
 induction k using Nat.strongRecOn with
 | _ k ih =>
  match k, ih with
  | 0, _ => intro most st x s _ h; rw [readT] at h; cases h
  | 1, _ => intro most st x s _ h; rw [readT] at h; cases h
  | k + 2, ih =>
   intro most st x s h0 h
   simp only [readT] at h
   split at h
   · cases h
   · rename_i y s2 h2
     have h3 := first_fwd (ih k (by omega)) most st y s2 h0 h2
     have h4 := loop_fwd (ih (k + 1) (by omega)) most _ _ _ s2 x s h3.2.1 h
     omega
end Go.Proofs.YtanhhihechakhaaDoor.ReadP
set_option linter.unusedVariables false
set_option linter.unusedSimpArgs false
namespace Go.Proofs.YtanhhihechakhaaDoor.WrP
open Go.RowKit Go.Proofs.YtanhhihechakhaaDoor.E Go.Proofs.YtanhhihechakhaaDoor.ReplP Go.Proofs.YtanhhihechakhaaDoor.TokP Go.Proofs.YtanhhihechakhaaDoor.TermP
mutual
/-- how much a term holds -/
def wtG : GT → Nat | .mk _ _ s _ _ kids => s.size + 1 + wtGs kids
def wtGs : List GT → Nat | [] => 0 | t :: l => wtG t + wtGs l
end
theorem wtG_mk (k n : Int) (s : ByteArray) (A : Option Addr) (c : Nat) (kids : List GT) : wtG (.mk k n s A c kids) = s.size + 1 + wtGs kids := by rw [wtG]
theorem wtGs_nil : wtGs [] = 0 := by rw [wtGs]
theorem wtGs_cons (t : GT) (l : List GT) : wtGs (t :: l) = wtG t + wtGs l := by rw [wtGs]
theorem wtGs_kid : ∀ {l : List GT} {t : GT}, t ∈ l → wtG t ≤ wtGs l
 | [], t, h => (List.not_mem_nil h).elim
 | x :: l, t, h => by
  rw [wtGs_cons]
  rcases List.mem_cons.1 h with rfl | h
  · omega
  · have := wtGs_kid h
    omega
end Go.Proofs.YtanhhihechakhaaDoor.WrP
set_option linter.unusedVariables false
set_option linter.unusedSimpArgs false
namespace Go.Proofs.YtanhhihechakhaaDoor.WrP
open Go.RowKit Go.Proofs.YtanhhihechakhaaDoor.E Go.Proofs.YtanhhihechakhaaDoor.ReplP Go.Proofs.YtanhhihechakhaaDoor.TokP Go.Proofs.YtanhhihechakhaaDoor.TermP
def strC (s : ByteArray) : List Value := [.string s]
theorem strC_snoc (l : List ByteArray) (s : ByteArray) : ((l ++ [s]).map strC).flatten = (l.map strC).flatten ++ [.string s] := by
 rw [List.map_append, List.flatten_append]
 simp [strC]
end Go.Proofs.YtanhhihechakhaaDoor.WrP

/- The engine's rules for calls, code, entry and return. Conditions: none; plain lemmas. -/
import Derived.Test.YtdbeiaohibgmeaaEngMem
set_option linter.unusedVariables false
set_option linter.unusedSimpArgs false
namespace Go.Proofs.Ytdbeiaohibgmeaa.E
open Go.RowKit

/-! contracts -/
/-- it returns v, and leaves memory as it is but for what is new -/
def C0 (P : Program) (F : Nat) (vs : List Value) (h : Hp) (v : Value) : Prop := ∀ w, h.Sub w → Calls P F vs.toArray w fun e w' => e = .returned v ∧ Frm w [] w'
/-- it returns something of which Φ tells, in memory that may be new -/
def CX {X : Type} (P : Program) (F : Nat) (vs : List Value) (h : Hp) (rv : X → Value) (Φ : X → Hp → Prop) : Prop :=
  ∀ w, h.Sub w → Calls P F vs.toArray w fun e w' => ∃ x h', e = .returned (rv x) ∧ Φ x h' ∧ Grow h w h' w'
/-- it returns v and turns block g -/
def CM (P : Program) (F : Nat) (vs : List Value) (h : Hp) (g : Nat) (o : Obj) (v : Value) (o' : Obj) : Prop :=
  ∀ w, h.Sub w → h g = none → w.heap[g]? = some o → Calls P F vs.toArray w fun e w' => e = .returned v ∧ Frm w [g] w' ∧ w'.heap[g]? = some o'
def Hp.upd (h : Hp) (g : Nat) (o : Obj) : Hp := fun k => if k = g then some o else h k
theorem Hp.upd_same (h : Hp) (g : Nat) (o : Obj) : h.upd g o g = some o := by simp [Hp.upd]
theorem Hp.upd_sub {h : Hp} {g : Nat} {o : Obj} {w : World} (hs : h.Sub w) (hg : w.heap[g]? = some o) : (h.upd g o).Sub w := fun k o' hk => by
  by_cases e : k = g
  · subst e
    simp only [Hp.upd, if_true, Option.some.injEq] at hk
    subst hk
    exact hg
  · exact hs k o' (by simpa [Hp.upd, e] using hk)
theorem Hp.upd_le {h : Hp} {g : Nat} {o : Obj} (hg : h g = none) : h.Le (h.upd g o) := fun k o' hk => by
  by_cases e : k = g
  · subst e; rw [hg] at hk; cases hk
  · simpa [Hp.upd, e] using hk

def callB (P : Program) (F : Nat) : Bool := match P.funcs[F]? with
  | some fn => !(fn.name == "runtime.NumGoroutine") && fn.body.isSome
  | none => false
theorem call_spec {P : Program} {F : Nat} (h : callB P F = true) (args : Array Value) (w : World) : (callFunc F args).run P w = .ok (.enter F args) w := by
  unfold callB at h
  split at h
  · rename_i fn hf
    rw [Bool.and_eq_true] at h
    obtain ⟨h1, h2⟩ := h
    have h1' : ¬ fn.name = "runtime.NumGoroutine" := by simpa using h1
    have h2' : ¬ fn.body = none := by
      intro hb
      rw [hb] at h2
      cases h2
    simp [callFunc, hf, h1', h2']
  · cases h

section
variable {m : Md} {P : Program} {ops : Array Oper} {Q : Exit → Act → World → Prop} {n : Nat} {D : List Deferred} {w0 : World} {M : List Nat} {h0 : Hp}
variable {f : Tab} {h : Hp} {H : List Res} {rest : List Oper} {o : Oper}
section calls
variable {d t : Nat} {p : String} {af : Array Edge} {g : Option (Nat × Bool)} {F : Nat} {args : Array Operand} {tys : Array TypeId} {vs : List Value}

theorem run_callF {a : Act} {w : World} {dst : Option Nat} (hF : callB P F = true) (ha : Holds n D f a) (hx : f.evs args.toList = some vs) :
    (execOp a.eval ⟨dst, .call ⟨.value (.func F), args, tys⟩, t, p, af, g⟩).run P w = .ok (.enter F vs.toArray) w := by
  have h1 : args.map a.eval = vs.toArray := by
    rw [← ha.evs hx]
    apply Array.ext'
    simp
  simp only [execOp, resolve, h1, Act.eval, Deferred.ofValue, Sem.run_bind, Sem.run_pure, Result.andThen_ok, invoke, Array.empty_append, Array.append_empty, call_spec hF]
theorem sy_call {v : Value} (hm : m.plain = true) (hF : callB P F = true) (hx : f.evs args.toList = some vs) (hc : C0 P F vs h v) (hw : gok ops f g = some true) (hn : Nat.blt d n = true)
    (k : Sy m P ops Q n D w0 M h0 rest ((d, v) :: f) h H) : Sy m P ops Q n D w0 M h0 (⟨some d, .call ⟨.value (.func F), args, tys⟩, t, p, af, g⟩ :: rest) f h H :=
  sy_enter hm hw rfl hn (fun a w ha => run_callF hF ha hx) (fun w hs => hc w hs.sub) k
/-- .. that reads an owned block -/
theorem sy_callr {v : Value} {b : Nat} {ob : Obj} {H1 : List Res} (i : Nat) (hm : m.plain = true) (hF : callB P F = true) (hx : f.evs args.toList = some vs) (hp : pickR i H = some (.blk b ob, H1)) (hc : C0 P F vs (h.upd b ob) v) (hw : gok ops f g = some true) (hn : Nat.blt d n = true)
    (k : Sy m P ops Q n D w0 M h0 rest ((d, v) :: f) h H) : Sy m P ops Q n D w0 M h0 (⟨some d, .call ⟨.value (.func F), args, tys⟩, t, p, af, g⟩ :: rest) f h H :=
  sy_enter hm hw rfl hn (fun a w ha => run_callF hF ha hx) (fun w hs => hc w (Hp.upd_sub hs.sub ((hs.swap (pickR_perm hp)).ok _ (List.mem_cons_self)))) k
theorem sy_callx {X : Type} {rv : X → Value} {Φ : X → Hp → Prop} (hF : callB P F = true) (hx : f.evs args.toList = some vs) (hc : CX P F vs h rv Φ) (hw : gok ops f g = some true) (hn : Nat.blt d n = true)
    (k : ∀ x h', Φ x h' → h.Le h' → Sy .txt P ops Q n D w0 M h0 rest ((d, rv x) :: f) h' H) : Sy .txt P ops Q n D w0 M h0 (⟨some d, .call ⟨.value (.func F), args, tys⟩, t, p, af, g⟩ :: rest) f h H :=
  sy_op hw fun a w ha hs => by
    unfold Oper.wp
    rw [run_callF hF ha hx]
    refine (hc w hs.sub).mono fun e w' ⟨x, h', he, hΦ, hg⟩ => ?_
    subst he
    exact k x h' hΦ hg.le _ w' (ha.put d _ hn) (hs.grow' hg)
theorem sy_callm {v : Value} {b : Nat} {ob ob' : Obj} {H1 : List Res} (i : Nat) (hF : callB P F = true) (hx : f.evs args.toList = some vs) (hp : pickR i H = some (.blk b ob, H1)) (hc : CM P F vs h b ob v ob') (hw : gok ops f g = some true) (hn : Nat.blt d n = true)
    (k : Sy .txt P ops Q n D w0 M h0 rest ((d, v) :: f) h (.blk b ob' :: H1)) : Sy .txt P ops Q n D w0 M h0 (⟨some d, .call ⟨.value (.func F), args, tys⟩, t, p, af, g⟩ :: rest) f h H :=
  sy_op hw fun a w ha hs => by
    have hs' := hs.swap (pickR_perm hp)
    unfold Oper.wp
    rw [run_callF hF ha hx]
    refine (hc w hs.sub (hs'.own _ (List.mem_cons_self) b rfl).1 (hs'.ok _ (List.mem_cons_self))).mono fun e w' ⟨he, hf, hg⟩ => ?_
    subst he
    exact k _ w' (ha.put d _ hn) (hs'.write hf hg)
end calls

/-! code -/
theorem cy_seq {x y : Code} (k : Cy P x (Exit.then (y.wp P Q) Q) n D w0 M h0 f h H) : Cy P (.seq x y) Q n D w0 M h0 f h H := fun a w ha hs => wp_seq (k a w ha hs)
theorem cy_skip (k : Ny Q .normal n D w0 M h0 f h H) : Cy P .skip Q n D w0 M h0 f h H := fun a w ha hs => wp_skip (k a w ha hs)
theorem cy_label {l : Nat} (k : Ny Q .normal n D w0 M h0 f h H) : Cy P (.label l) Q n D w0 M h0 f h H := fun a w ha hs => wp_label (k a w ha hs)
theorem cy_ret (k : Ny Q .ret n D w0 M h0 f h H) : Cy P .ret Q n D w0 M h0 f h H := fun a w ha hs => wp_ret (k a w ha hs)
theorem cy_exit {i : Nat} (k : Ny Q (.exit i) n D w0 M h0 f h H) : Cy P (.exit i) Q n D w0 M h0 f h H := fun a w ha hs => wp_exit (k a w ha hs)
theorem cy_goto {i : Nat} (k : Ny Q (.goto i) n D w0 M h0 f h H) : Cy P (.goto i) Q n D w0 M h0 f h H := fun a w ha hs => wp_goto (k a w ha hs)
theorem cy_block {i : Nat} {c : Code} (k : Cy P c (Exit.inBlock i Q) n D w0 M h0 f h H) : Cy P (.block i c) Q n D w0 M h0 f h H := fun a w ha hs => wp_block (k a w ha hs)
theorem cy_region {i : Nat} {l : List Oper} (k : Sy .txt P l.toArray Q n D w0 M h0 l f h H) : Cy P (.region i l.toArray false) Q n D w0 M h0 f h H := fun a w ha hs => wp_region_list (show wpList P l.toArray Q l.toArray.toList a w from k a w ha hs)
theorem St.drawn {w : World} (hs : St w0 M h0 h H w) : St w0 M h0 h H { w with drawn := w.drawn + 1 } := hs.grow ⟨rfl, rfl, rfl, Nat.le_refl _, fun _ _ _ => rfl⟩
theorem cy_regionQ {i : Nat} {l : List Oper} (hm : P.follows .mixedOrders = true) (hB : Region.lexB .any l.toArray = true) (k : Sy .qui P l.toArray Q n D w0 M h0 l f h H) : Cy P (.region i l.toArray true) Q n D w0 M h0 f h H :=
  fun a w ha hs => wp_region_quiet (C := St w0 M h0 h H) hm hB hs.drawn (show wpQuiet P l.toArray (St w0 M h0 h H) _ l.toArray.toList a from k a w ha hs)
/-- a region that draws: none of the operations that only read looks into the owned resources -/
theorem cy_regionH {i : Nat} {l : List Oper} (hm : P.follows .mixedOrders = true) (hB : heldB l.toArray = true) (k : Sy (.held H) P l.toArray Q n D w0 M h0 l f h []) : Cy P (.region i l.toArray true) Q n D w0 M h0 f h H :=
  fun a w ha hs => by
    refine wp_region_noPanic (wp_region_held (S := St w0 M h0 h []) hm ?_)
    have h1 := k a _ ha (show St w0 M h0 h (H ++ []) _ by rw [List.append_nil]; exact hs.drawn) ⟨hB, Nat.le_refl _, by simp⟩
    simpa [lst] using h1
def splitO : Nat → List Oper → Option (List Oper × List Oper)
  | 0, l => some ([], l)
  | _ + 1, [] => none
  | n + 1, o :: l => match splitO n l with
    | some (a, b) => some (o :: a, b)
    | none => none
theorem splitO_spec : ∀ {n : Nat} {l l1 l2 : List Oper}, splitO n l = some (l1, l2) → l.take n = l1 ∧ l.drop n = l2
  | 0, l, l1, l2, h => by
    simp only [splitO, Option.some.injEq, Prod.mk.injEq] at h
    obtain ⟨rfl, rfl⟩ := h
    simp
  | n + 1, [], _, _, h => by simp [splitO] at h
  | n + 1, o :: l, l1, l2, h => by
    unfold splitO at h
    split at h
    · rename_i a b hab
      simp only [Option.some.injEq, Prod.mk.injEq] at h
      obtain ⟨rfl, rfl⟩ := h
      have := splitO_spec hab
      simp [this.1, this.2]
    · cases h
/-- a region that draws: N operations that only read, then others in one forced order -/
theorem cy_regionS {i : Nat} {l l1 l2 : List Oper} (N : Nat) (hm : P.follows .mixedOrders = true) (hB : Region.lexTailB .any l.toArray N = true) (hs : splitO N l = some (l1, l2)) (k : Sy (.still l2) P l.toArray Q n D w0 M h0 l1 f h H) : Cy P (.region i l.toArray true) Q n D w0 M h0 f h H :=
  fun a w ha hs' => by
    obtain ⟨rfl, rfl⟩ := splitO_spec hs
    exact wp_region_still_tail N hm hB (k a _ ha hs'.drawn)
theorem cy_scope {c : Code} (k : Cy P c (Exit.noGoto Q) n D w0 M h0 f h H) : Cy P (.scope c) Q n D w0 M h0 f h H := fun a w ha hs => wp_scope_straight (k a w ha hs)
theorem ny_scopeN (k : Ny Q .normal n D w0 M h0 f h H) : Ny (Exit.noGoto Q) .normal n D w0 M h0 f h H := k
theorem ny_scopeR (k : Ny Q .ret n D w0 M h0 f h H) : Ny (Exit.noGoto Q) .ret n D w0 M h0 f h H := k
theorem ny_scopeE {i : Nat} (k : Ny Q (.exit i) n D w0 M h0 f h H) : Ny (Exit.noGoto Q) (.exit i) n D w0 M h0 f h H := k
theorem cy_condT {c : Operand} {x y : Code} (hc : f.ev c = some (.bool true)) (k : Cy P x Q n D w0 M h0 f h H) : Cy P (.cond c x y) Q n D w0 M h0 f h H := fun a w ha hs => wp_cond_true (ha.ev hc) (k a w ha hs)
theorem cy_condF {c : Operand} {x y : Code} (hc : f.ev c = some (.bool false)) (k : Cy P y Q n D w0 M h0 f h H) : Cy P (.cond c x y) Q n D w0 M h0 f h H := fun a w ha hs => wp_cond_false (ha.ev hc) (k a w ha hs)
theorem cy_cond {c : Operand} {x y : Code} {e : Bool} (hc : f.ev c = some (.bool e)) (kt : e = true → Cy P x Q n D w0 M h0 f h H) (kf : e = false → Cy P y Q n D w0 M h0 f h H) : Cy P (.cond c x y) Q n D w0 M h0 f h H := fun a w ha hs => by
  cases e with
  | true => exact wp_cond_true (ha.ev hc) (kt rfl a w ha hs)
  | false => exact wp_cond_false (ha.ev hc) (kf rfl a w ha hs)

theorem ny_next {y : Code} (k : Cy P y Q n D w0 M h0 f h H) : Ny (Exit.then (y.wp P Q) Q) .normal n D w0 M h0 f h H := k
theorem ny_thenE {K : Act → World → Prop} {i : Nat} (k : Ny Q (.exit i) n D w0 M h0 f h H) : Ny (Exit.then K Q) (.exit i) n D w0 M h0 f h H := k
theorem ny_thenR {K : Act → World → Prop} (k : Ny Q .ret n D w0 M h0 f h H) : Ny (Exit.then K Q) .ret n D w0 M h0 f h H := k
theorem ny_thenG {K : Act → World → Prop} {i : Nat} (k : Ny Q (.goto i) n D w0 M h0 f h H) : Ny (Exit.then K Q) (.goto i) n D w0 M h0 f h H := k
theorem ny_blockN {i : Nat} (k : Ny Q .normal n D w0 M h0 f h H) : Ny (Exit.inBlock i Q) .normal n D w0 M h0 f h H := k
theorem ny_blockR {i : Nat} (k : Ny Q .ret n D w0 M h0 f h H) : Ny (Exit.inBlock i Q) .ret n D w0 M h0 f h H := k
theorem ny_blockG {i j : Nat} (k : Ny Q (.goto j) n D w0 M h0 f h H) : Ny (Exit.inBlock i Q) (.goto j) n D w0 M h0 f h H := k
theorem ny_blockX {i : Nat} (k : Ny Q .normal n D w0 M h0 f h H) : Ny (Exit.inBlock i Q) (.exit i) n D w0 M h0 f h H := fun a w ha hs => by
  show (if i = i then Q .normal a w else Q (.exit i) a w)
  rw [if_pos rfl]
  exact k a w ha hs
theorem ny_blockY {i j : Nat} (hne : Nat.beq j i = false) (k : Ny Q (.exit j) n D w0 M h0 f h H) : Ny (Exit.inBlock i Q) (.exit j) n D w0 M h0 f h H := fun a w ha hs => by
  show (if j = i then Q .normal a w else Q (.exit j) a w)
  rw [if_neg (fun e => by subst e; simp [Nat.beq_refl] at hne)]
  exact k a w ha hs

/-- All owned blocks are given over to the ghost; rows are let go. -/
theorem frzAll {w : World} : ∀ (H : List Res) (h : Hp), St w0 [] h0 h H w → ∃ h', h.Le h' ∧ (∀ g o, Res.blk g o ∈ H → h' g = some o) ∧ St w0 [] h0 h' [] w
  | [], h, hs => ⟨h, Hp.Le.refl h, fun _ _ hm => (List.not_mem_nil hm).elim, hs⟩
  | .row v e size l xs :: H, h, hs => by
    obtain ⟨h', h1, h2, h3⟩ := frzAll H h (hs.perm (List.sublist_cons_self _ _))
    exact ⟨h', h1, fun g o hm => h2 g o (by rcases List.mem_cons.1 hm with he | he; · cases he
                                            · exact he), h3⟩
  | .blk g o :: H, h, hs => by
    obtain ⟨hs1, hl1⟩ := hs.freeze (by simp)
    obtain ⟨h', h1, h2, h3⟩ := frzAll H _ hs1
    refine ⟨h', hl1.trans h1, fun g' o' hm => ?_, h3⟩
    rcases List.mem_cons.1 hm with he | he
    · injection he with he1 he2
      subst he1 he2
      exact h1 _ _ (by simp)
    · exact h2 g' o' he
theorem cy_frzAll {c : Code} (k : ∀ h', h.Le h' → (∀ g o, Res.blk g o ∈ H → h' g = some o) → Cy P c Q n D w0 [] h0 f h' []) : Cy P c Q n D w0 [] h0 f h H := fun a w ha hs => by
  obtain ⟨h', h1, h2, h3⟩ := frzAll H h hs
  exact k h' h1 h2 a w ha h3
theorem ny_frz {e : Exit} {g : Nat} {o' : Obj} {H1 : List Res} (i : Nat) (hp : pickR i H = some (.blk g o', H1)) (hM : g ∉ M) (k : ∀ h', h.Le h' → h' g = some o' → Ny Q e n D w0 M h0 f h' H1) : Ny Q e n D w0 M h0 f h H := fun a w ha hs => by
  obtain ⟨h', h1, h2, h3⟩ := frz i hp hM hs
  exact k h' h1 h2 a w ha h3
/-! a loop -/
/-- what a round hands on -/
def Round {ι : Type} (J : ι → Prop) (μ : ι → Nat) (F : ι → Tab) (G : ι → Hp) (R : ι → List Res) (n : Nat) (D : List Deferred) (w0 : World) (M : List Nat) (h0 : Hp) (i : ι) : Act → World → Prop :=
  fun a w => ∃ i', J i' ∧ μ i' < μ i ∧ Holds n D (F i') a ∧ St w0 M h0 (G i') (R i') w
theorem cy_loop {ι : Type} {c : Code} (J : ι → Prop) (μ : ι → Nat) (F : ι → Tab) (G : ι → Hp) (R : ι → List Res) (i0 : ι) (is : List Nat) (hJ : J i0) (hF : Tab.Le (F i0) f) (hG : G i0 = h) (hR : selR is H = some (R i0))
    (round : ∀ i, J i → Cy P c (Exit.then (Round J μ F G R n D w0 M h0 i) Q) n D w0 M h0 (F i) (G i) (R i)) : Cy P (.loop c) Q n D w0 M h0 f h H := by
  intro a w ha hs
  refine wp_loop_ghost (fun k a w => ∃ i, J i ∧ μ i = k ∧ Holds n D (F i) a ∧ St w0 M h0 (G i) (R i) w) (μ i0) ⟨i0, hJ, rfl, ha.weak hF, by rw [hG]; exact hs.sel hR⟩ ?_
  rintro k a w ⟨i, hi, rfl, ha, hs⟩
  refine wp_mono (round i hi a w ha hs) ?_
  intro e a' w' hq
  cases e with
  | normal =>
    obtain ⟨i', h1, h2, h3, h4⟩ := hq
    exact ⟨μ i', h2, i', h1, rfl, h3, h4⟩
  | exit id => exact hq
  | goto l => exact hq
  | ret => exact hq
  | panic ch => exact hq
  | outgrown => exact hq
theorem ny_round {ι : Type} {J : ι → Prop} {μ : ι → Nat} {F : ι → Tab} {G : ι → Hp} {R : ι → List Res} {i : ι} (i' : ι) (is : List Nat) (hJ : J i') (hμ : μ i' < μ i) (hF : Tab.Le (F i') f) (hG : G i' = h) (hR : selR is H = some (R i')) :
    Ny (Exit.then (Round J μ F G R n D w0 M h0 i) Q) .normal n D w0 M h0 f h H := fun a w ha hs => ⟨i', hJ, hμ, ha.weak hF, by rw [hG]; exact hs.sel hR⟩

/-! entry and return -/
def initO : Nat → List Value → Option Tab
  | _, [] => some []
  | i, v :: t => match initO (i + 1) t with
    | some f => some ((i, v) :: f)
    | none => none
theorem initO_get : ∀ {i : Nat} {vs : List Value} {f : Tab}, initO i vs = some f → ∀ j v, f.get j = some v → i ≤ j ∧ vs[j - i]? = some v
  | _, [], f, h, j, v, hj => by
    simp only [initO, Option.some.injEq] at h
    subst h
    simp [Tab.get] at hj
  | i, x :: t, f, h, j, v, hj => by
    unfold initO at h
    split at h
    · rename_i f' hf
      simp only [Option.some.injEq] at h
      subst h
      unfold Tab.get at hj
      cases hb : Nat.beq j i with
      | true =>
        rw [hb] at hj
        simp only [cond_true, Option.some.injEq] at hj
        have := Nat.eq_of_beq_eq_true hb
        subst this
        subst hj
        simp
      | false =>
        rw [hb] at hj
        obtain ⟨h1, h2⟩ := initO_get hf j v hj
        refine ⟨by omega, ?_⟩
        rw [show j - i = (j - (i + 1)) + 1 by omega, List.getElem?_cons_succ]
        exact h2
    · cases h
theorem enterM {F : Nat} {fn : Func} {c : Code} {vs : List Value} {R : Ending → World → Prop} (hf : P.funcs[F]? = some fn) (hb : fn.body = some c) (hi : initO 0 vs = some f) (hn : Nat.ble vs.length fn.ntmps = true)
    {w : World} (hs : St w M h0 h H w) (k : Cy P c (bodyPost P fn R) fn.ntmps [] w M h0 f h H) : Calls P F vs.toArray w R := by
  refine calls_of_wp hf hb (k _ w ⟨?_, rfl, fun i v hiv => ?_⟩ hs)
  · have := Nat.le_of_ble_eq_true hn
    simp
    omega
  · obtain ⟨_, h1⟩ := initO_get hi i v hiv
    have hlt := (List.getElem?_eq_some_iff.1 h1).1
    simp only [Nat.sub_zero] at h1 hlt
    rw [Array.getElem?_append_left (by simpa using hlt)]
    simpa using h1
/-- a function that turns nothing that was there -/
theorem enter0 {F : Nat} {fn : Func} {c : Code} {vs : List Value} {v : Value} (hf : P.funcs[F]? = some fn) (hb : fn.body = some c) (hi : initO 0 vs = some f) (hn : Nat.ble vs.length fn.ntmps = true)
    (k : ∀ w, Cy P c (bodyPost P fn fun e w' => e = .returned v ∧ Frm w [] w') fn.ntmps [] w [] h f h []) : C0 P F vs h v := fun w hs => enterM hf hb hi hn (St.start hs []) (k w)
theorem enterX {X : Type} {rv : X → Value} {Φ : X → Hp → Prop} {F : Nat} {fn : Func} {c : Code} {vs : List Value} (hf : P.funcs[F]? = some fn) (hb : fn.body = some c) (hi : initO 0 vs = some f) (hn : Nat.ble vs.length fn.ntmps = true)
    (k : ∀ w, Cy P c (bodyPost P fn fun e w' => ∃ x h', e = .returned (rv x) ∧ Φ x h' ∧ Grow h w h' w') fn.ntmps [] w [] h f h []) : CX P F vs h rv Φ := fun w hs => enterM hf hb hi hn (St.start hs []) (k w)
theorem enter1 {F : Nat} {fn : Func} {c : Code} {vs : List Value} {v : Value} {b : Nat} {ob ob' : Obj} (hf : P.funcs[F]? = some fn) (hb : fn.body = some c) (hi : initO 0 vs = some f) (hn : Nat.ble vs.length fn.ntmps = true)
    (k : ∀ w, b < w.heap.size → Cy P c (bodyPost P fn fun e w' => e = .returned v ∧ Frm w [b] w' ∧ w'.heap[b]? = some ob') fn.ntmps [] w [b] h f h [.blk b ob]) : CM P F vs h b ob v ob' :=
  fun w hs hg hw => enterM hf hb hi hn (St.start1 hs hw hg) (k w (Array.getElem?_eq_some_iff.1 hw).1)

theorem ny_fin {fn : Func} {R : Ending → World → Prop} {v : Value} (hres : ∀ a w, Holds n [] f a → St w0 M h0 h H w → (results fn a.tmps).run P w = .ok v w) (k : ∀ w, St w0 M h0 h H w → R (.returned v) w) : Ny (bodyPost P fn R) .normal n [] w0 M h0 f h H :=
  fun a w ha hs => ⟨ha.defers, v, hres a w ha hs, k w hs⟩
theorem ny_finR {fn : Func} {R : Ending → World → Prop} {v : Value} (hres : ∀ a w, Holds n [] f a → St w0 M h0 h H w → (results fn a.tmps).run P w = .ok v w) (k : ∀ w, St w0 M h0 h H w → R (.returned v) w) : Ny (bodyPost P fn R) .ret n [] w0 M h0 f h H :=
  fun a w ha hs => ⟨ha.defers, v, hres a w ha hs, k w hs⟩
theorem res1 {fn : Func} {t : Nat} {v : Value} (hr : fn.results = #[.tmp t]) (hv : f.get t = some v) : ∀ a w, Holds n [] f a → St w0 M h0 h H w → (results fn a.tmps).run P w = .ok v w := fun a w ha _ => by
  have := ha.get t v hv
  rw [results_tmp hr]
  simp [this]
theorem res0 {fn : Func} (hr : fn.results = #[]) : ∀ a w, Holds n [] f a → St w0 M h0 h H w → (results fn a.tmps).run P w = .ok (.tuple #[]) w := fun a w ha _ => results_none hr _ _ _
theorem res2 {fn : Func} {t u : Nat} {v v2 : Value} (hr : fn.results = #[.tmp t, .tmp u]) (hv : f.get t = some v) (hu : f.get u = some v2) : ∀ a w, Holds n [] f a → St w0 M h0 h H w → (results fn a.tmps).run P w = .ok (.tuple #[v, v2]) w := fun a w ha _ => by
  have h1 := ha.get t v hv
  have h2 := ha.get u v2 hu
  rw [results_tmp2 hr]
  simp [h1, h2]
theorem res3 {fn : Func} {t u x : Nat} {v v2 v3 : Value} (hr : fn.results = #[.tmp t, .tmp u, .tmp x]) (hv : f.get t = some v) (hu : f.get u = some v2) (hx : f.get x = some v3) : ∀ a w, Holds n [] f a → St w0 M h0 h H w → (results fn a.tmps).run P w = .ok (.tuple #[v, v2, v3]) w := fun a w ha _ => by
  have h1 := ha.get t v hv
  have h2 := ha.get u v2 hu
  have h3 := ha.get x v3 hx
  simp [results, hr, h1, h2, h3]
theorem res4 {fn : Func} {t u x y : Nat} {v v2 v3 v4 : Value} (hr : fn.results = #[.tmp t, .tmp u, .tmp x, .tmp y]) (hv : f.get t = some v) (hu : f.get u = some v2) (hx : f.get x = some v3) (hy : f.get y = some v4) :
    ∀ a w, Holds n [] f a → St w0 M h0 h H w → (results fn a.tmps).run P w = .ok (.tuple #[v, v2, v3, v4]) w := fun a w ha _ => by
  have h1 := ha.get t v hv
  have h2 := ha.get u v2 hu
  have h3 := ha.get x v3 hx
  have h4 := ha.get y v4 hy
  simp [results, hr, h1, h2, h3, h4]
/-- a named result that lies in a block of its own, and a plain one -/
theorem resc1 {fn : Func} {t u ty e l : Nat} {fr : Nat × Nat} {b : Nat} {cs vs : List Value} {v2 : Value} {H1 : List Res} (i : Nat) (hr : fn.results = #[.cell t ty, .tmp u]) (hty : aggB P ty l = true) (hv : f.get t = some (.pointer (some ⟨b, 0, none⟩))) (hu : f.get u = some v2)
    (hp : pickR i H = some (.blk b (.cells cs.toArray e fr), H1)) (hc : sliceO 0 l cs = some vs) :
    ∀ a w, Holds n [] f a → St w0 M h0 h H w → (results fn a.tmps).run P w = .ok (.tuple #[.agg vs.toArray, v2]) w := fun a w ha hs => by
  have h1 := ha.get t _ hv
  have h2 := ha.get u v2 hu
  have hb : w.heap[b]? = some (.cells cs.toArray e fr) := (hs.swap (pickR_perm hp)).ok _ (List.mem_cons_self)
  obtain ⟨h5, h6⟩ := agg_spec hty w
  obtain ⟨h7, h8⟩ := sliceO_spec hc
  subst h7
  have h3 := run_loadCells_list (P := P) w ⟨b, 0, none⟩ vs (fun j u hj => by
    rw [Addr.add_at]
    have := h8 j u hj
    simp only [Nat.zero_add] at this ⊢
    simp [World.cell?, hb, this])
  simp [results, hr, h1, h2, asAddr, loadVar, h5, h6, h3]
end
end Go.Proofs.Ytdbeiaohibgmeaa.E

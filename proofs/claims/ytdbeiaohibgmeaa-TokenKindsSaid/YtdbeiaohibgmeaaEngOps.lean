/- The engine's rules: one for each operation and each form of code. Conditions: none; plain lemmas. -/
import Derived.Test.YtdbeiaohibgmeaaEng
import Derived.OrdersHeld
import Derived.Deep.RegionHeld3
import Derived.StillTail
import Derived.Laws.Strings
import Derived.ScopeJumps
set_option linter.unusedVariables false
set_option linter.unusedSimpArgs false
namespace Go.Proofs.Ytdbeiaohibgmeaa.E
open Go.RowKit

/-- Is the operation wanted? -/
def gok (ops : Array Oper) (f : Tab) : Option (Nat × Bool) → Option Bool
  | none => some true
  | some (j, want) =>
    match (ops[j]?).bind (·.dst) with
    | some d => (match f.get d with
      | some (.bool b) => some (b == want)
      | some (.tuple _) => some false
      | _ => none)
    | none => none

theorem gok_wanted {ops : Array Oper} {n : Nat} {D : List Deferred} {f : Tab} {a : Act} (ha : Holds n D f a) {o : Oper} {b : Bool} (h : gok ops f o.guard = some b) :
    Region.wanted o (yielded ops a.tmps) = b := by
  unfold Region.wanted
  unfold gok at h
  split at h
  · rename_i hg
    simp only [Option.some.injEq] at h
    rw [hg, ← h]
  · rename_i j want hg
    rw [hg]
    simp only []
    split at h
    · rename_i d hd
      split at h
      · rename_i b' hb
        simp only [Option.some.injEq] at h
        have h1 := ha.get d _ hb
        simp only [yielded, hd, Option.bind_some, h1]
        rw [← h]
        cases b' <;> cases want <;> rfl
      · rename_i vs hb
        simp only [Option.some.injEq] at h
        have h1 := ha.get d _ hb
        simp only [yielded, hd, Option.bind_some, h1]
        rw [← h]
        rfl
      · cases h
    · cases h

/-- The first k operations have come up. -/
def lst (n : Nat) : Nat → Array Bool
  | 0 => Array.replicate n false
  | k + 1 => (lst n k).setIfInBounds k true
def okAt (ops : Array Oper) (k : Nat) : Bool :=
  (Region.free .any ops (lst ops.size k) k && (Region.ready .any ops (lst ops.size k)).contains k) || (Region.ready .any ops (lst ops.size k) == [k])
/-- Each operation may be taken in the text's order: it stands apart from those that could come ahead of it, or none could. -/
def heldB (ops : Array Oper) : Bool := Region.noSelect ops && (List.range ops.size).all (okAt ops)
structure HeldAt (ops : Array Oper) (rest : List Oper) : Prop where
  all : heldB ops = true
  len : rest.length ≤ ops.size
  suf : rest = ops.toList.drop (ops.size - rest.length)
/-- The text's order; whatever order, all only read; whatever order, and the resources E are turned by operations that no other could come ahead of. -/
inductive Md where
  | txt
  | qui
  | held (E : List Res)
  | still (tl : List Oper)
  | one
def Md.ext : Md → List Res → List Res
  | .held E, H => E ++ H
  | _, H => H
def Md.plain : Md → Bool
  | .txt => true
  | .qui => true
  | _ => false

section
variable {m : Md} {P : Program} {ops : Array Oper} {Q : Exit → Act → World → Prop} {n : Nat} {D : List Deferred} {w0 : World} {M : List Nat} {h0 : Hp}

/-- One operation behind the other, each yields one value in every world of the class; no calls. -/
def wpOne (P : Program) (ops : Array Oper) (C : World → Prop) (K : Act → Prop) : List Oper → Act → Prop
  | [], a => K a
  | o :: rest, a => ∃ v, YieldsIf P ops C o v a ∧ wpOne P ops C K rest (a.put o.dst v)
/-- What is to be shown of the operations that are left. -/
def Wk (m : Md) (P : Program) (ops : Array Oper) (Q : Exit → Act → World → Prop) (C : World → Prop) (rest : List Oper) (a : Act) (w : World) : Prop :=
  match m with
  | .txt => wpList P ops Q rest a w
  | .qui => wpQuiet P ops C (fun a' => ∀ w', C w' → Q .normal a' w') rest a
  | .still tl => wpStill P ops w (fun a' => wpList P ops Q tl a' w) rest a
  | .one => wpOne P ops C (fun a' => ∀ w', C w' → Q .normal a' w') rest a
  | .held _ => HeldAt ops rest → wpAnyH P .any ops (NoPanic Q) C rest.length (lst ops.size (ops.size - rest.length)) a w
/-- From every frame and world that the table, the ghost and the resources tell of, the operations run to Q. -/
def Sy (m : Md) (P : Program) (ops : Array Oper) (Q : Exit → Act → World → Prop) (n : Nat) (D : List Deferred) (w0 : World) (M : List Nat) (h0 : Hp) (rest : List Oper) (f : Tab) (h : Hp) (H : List Res) : Prop :=
  ∀ a w, Holds n D f a → St w0 M h0 h (m.ext H) w → Wk m P ops Q (St w0 M h0 h H) rest a w
/-- .. the code runs to Q. -/
def Cy (P : Program) (c : Code) (Q : Exit → Act → World → Prop) (n : Nat) (D : List Deferred) (w0 : World) (M : List Nat) (h0 : Hp) (f : Tab) (h : Hp) (H : List Res) : Prop :=
  ∀ a w, Holds n D f a → St w0 M h0 h H w → c.wp P Q a w
/-- .. Q holds. -/
def Ny (Q : Exit → Act → World → Prop) (e : Exit) (n : Nat) (D : List Deferred) (w0 : World) (M : List Nat) (h0 : Hp) (f : Tab) (h : Hp) (H : List Res) : Prop :=
  ∀ a w, Holds n D f a → St w0 M h0 h H w → Q e a w

variable {f : Tab} {h : Hp} {H : List Res} {rest : List Oper} {o : Oper}

theorem lst_size (n : Nat) : ∀ k, (lst n k).size = n
  | 0 => by simp [lst]
  | k + 1 => by simp [lst, lst_size n k]
theorem lst_get (n : Nat) : ∀ k i, i < n → (lst n k).getD i true = decide (i < k)
  | 0, i, hi => by simp [lst, hi]
  | k + 1, i, hi => by
    unfold lst
    by_cases e : k = i
    · subst e
      have : k < (lst n k).size := by rw [lst_size]; exact hi
      simp [this]
    · rw [getD_set_ne true e, lst_get n k i hi]
      congr 1
      apply propext
      constructor <;> intro h <;> omega
theorem ready_done (ops : Array Oper) : Region.ready .any ops (lst ops.size ops.size) = [] := by
  unfold Region.ready
  rw [List.filter_eq_nil_iff]
  intro i hi
  have hi' := List.mem_range.1 hi
  rw [lst_get _ _ _ hi']
  simp [hi']
theorem sy_nil (hm : m.plain = true) (k : Ny Q .normal n D w0 M h0 f h H) : Sy m P ops Q n D w0 M h0 [] f h H := fun a w ha hs => by
  cases m with
  | txt => exact k a w ha hs
  | qui => exact fun w' hw' => k a w' ha hw'
  | held E => cases hm
  | still tl => cases hm
  | one => cases hm
theorem sy_nil1 (k : Ny Q .normal n D w0 M h0 f h H) : Sy .one P ops Q n D w0 M h0 [] f h H := fun a w ha hs w' hw' => k a w' ha hw'
theorem sy_nilH {E : List Res} (k : Ny Q .normal n D w0 M h0 f h (E ++ H)) : Sy (.held E) P ops Q n D w0 M h0 [] f h H := fun a w ha hs hh => wpAnyH_done (by simpa using ready_done ops) (NoPanic.normal (k a w ha hs)) _
theorem sy_tail {tl : List Oper} (k : Sy .txt P ops Q n D w0 M h0 tl f h H) : Sy (.still tl) P ops Q n D w0 M h0 [] f h H := fun a w ha hs => k a w ha hs
theorem HeldAt.head {ops : Array Oper} {o : Oper} {rest : List Oper} (hh : HeldAt ops (o :: rest)) : ∃ k, k = ops.size - (rest.length + 1) ∧ ops.size - rest.length = k + 1 ∧ ops[k]? = some o ∧ okAt ops k = true ∧ Region.noSelect ops = true ∧ HeldAt ops rest := by
  have hl := hh.len
  simp only [List.length_cons] at hl
  have hsuf := hh.suf
  simp only [List.length_cons] at hsuf
  have hall := hh.all
  unfold heldB at hall
  rw [Bool.and_eq_true] at hall
  have hk : ops.size - rest.length = (ops.size - (rest.length + 1)) + 1 := by omega
  have ho : ops[ops.size - (rest.length + 1)]? = some o := by
    have := congrArg (fun l => l[0]?) hsuf
    simp only [List.getElem?_cons_zero, List.getElem?_drop, Nat.add_zero, Array.getElem?_toList] at this
    exact this.symm
  refine ⟨_, rfl, hk, ho, List.all_eq_true.1 hall.2 _ (List.mem_range.2 (by omega)), hall.1, hh.all, by omega, ?_⟩
  rw [hk]
  have := congrArg List.tail hsuf
  simpa using this
/-- in 'held': an operation that yields v in every world of the class -/
theorem held_val {C : World → Prop} {a : Act} {w : World} {v : Value} {E E' : List Res} (hh : HeldAt ops (o :: rest)) (hC : C w) (hy : YieldsIf P ops C o v a)
    (h1 : Wk (.held E) P ops Q C rest (a.put o.dst v) w) : wpAnyH P .any ops (NoPanic Q) C (o :: rest).length (lst ops.size (ops.size - (o :: rest).length)) a w := by
  obtain ⟨k, hk, hk1, ho, hok, hsel, hr⟩ := hh.head
  have h2 := h1 hr
  rw [hk1] at h2
  simp only [List.length_cons]
  rw [← hk]
  unfold okAt at hok
  rw [Bool.or_eq_true] at hok
  rcases hok with h3 | h3
  · rw [Bool.and_eq_true] at h3
    exact wpAnyH_take ho hsel h3.1 h3.2 (fun c a w hq => hq.elim) hy hC h2
  · refine wpAnyH_all (rs := [k]) (by simpa using h3) (by simp) (fun i hi => ?_)
    simp only [List.mem_singleton] at hi
    subst hi
    exact hy.wpOp ho hC ⟨hC, h2⟩
/-- in 'held': an operation that no other can come ahead of -/
def loneB (ops : Array Oper) (k : Nat) : Bool := Region.ready .any ops (lst ops.size k) == [k]
theorem held_eff {C : World → Prop} {a : Act} {w : World} (hh : HeldAt ops (o :: rest)) (hl : loneB ops (ops.size - (rest.length + 1)) = true) (hw : gok ops f o.guard = some true) (ha : Holds n D f a)
    (h1 : ∀ K : Act → World → Prop, (∀ a' w', C w' → wpAnyH P .any ops (NoPanic Q) C rest.length (lst ops.size (ops.size - rest.length)) a' w' → K a' w') → o.wp P a w K (NoPanic Q)) :
    wpAnyH P .any ops (NoPanic Q) C (o :: rest).length (lst ops.size (ops.size - (o :: rest).length)) a w := by
  obtain ⟨k, hk, hk1, ho, hok, hsel, hr⟩ := hh.head
  simp only [List.length_cons]
  rw [← hk] at hl ⊢
  refine wpAnyH_all (rs := [k]) (by simpa [loneB] using hl) (by simp) (fun i hi => ?_)
  simp only [List.mem_singleton] at hi
  subst hi
  unfold wpOp
  simp only [ho]
  rw [if_pos (gok_wanted ha hw)]
  refine .inl (h1 _ (fun a' w' hc hk' => ⟨hc, ?_⟩))
  rw [hk1] at hk'
  exact hk'
theorem St.tail {E H : List Res} {w : World} (hs : St w0 M h0 h (E ++ H) w) : St w0 M h0 h H w := hs.perm (List.sublist_append_right _ _)
theorem St.base {m : Md} {H : List Res} {w : World} (hs : St w0 M h0 h (m.ext H) w) : St w0 M h0 h H w := by
  cases m with
  | txt => exact hs
  | qui => exact hs
  | held E => exact hs.tail
  | still tl => exact hs
  | one => exact hs
theorem sy_op (hw : gok ops f o.guard = some true)
    (k : ∀ a w, Holds n D f a → St w0 M h0 h H w → o.wp P a w (wpList P ops Q rest) Q) : Sy .txt P ops Q n D w0 M h0 (o :: rest) f h H := by
  intro a w ha hs
  unfold Wk wpList
  rw [if_pos (gok_wanted ha hw)]
  exact .inl (k a w ha hs)
/-- in 'held': one that turns the resources E into E' -/
theorem sy_eff {E : List Res} (hl : loneB ops (ops.size - (rest.length + 1)) = true) (hw : gok ops f o.guard = some true)
    (k : ∀ a w, Holds n D f a → St w0 M h0 h (E ++ H) w → ∃ nx w' v E' f', (execOp a.eval o).run P w = .ok nx w' ∧ (nx = .value v ∨ nx = .skip ∧ v = undef) ∧ Holds n D f' (a.put o.dst v) ∧ St w0 M h0 h (E' ++ H) w' ∧ Sy (.held E') P ops Q n D w0 M h0 rest f' h H) :
    Sy (.held E) P ops Q n D w0 M h0 (o :: rest) f h H := by
  intro a w ha hs hh
  refine held_eff hh hl hw ha fun K hK => ?_
  obtain ⟨nx, w', v, E', f', h1, h2, h3, h4, h5⟩ := k a w ha hs
  unfold Oper.wp
  rw [h1]
  have h6 := h5 _ _ h3 h4 hh.head.choose_spec.2.2.2.2.2
  rcases h2 with rfl | ⟨rfl, rfl⟩
  · exact hK _ _ h4.tail h6
  · exact hK _ _ h4.tail h6
theorem sy_skip {d : Nat} (hw : gok ops f o.guard = some false) (hd : o.dst = some d) (hn : Nat.blt d n = true) (k : Sy m P ops Q n D w0 M h0 rest ((d, undef) :: f) h H) : Sy m P ops Q n D w0 M h0 (o :: rest) f h H := by
  intro a w ha hs
  have h1 := k _ w (ha.put d undef hn) hs
  cases m with
  | txt =>
    unfold Wk wpList
    rw [gok_wanted ha hw, hd]
    exact h1
  | qui =>
    unfold Wk wpQuiet
    rw [gok_wanted ha hw, hd]
    exact h1
  | held E => exact fun hh => held_val (E := E) (E' := E) hh hs.tail (.inr ⟨gok_wanted ha hw, rfl⟩) (by rw [hd]; exact h1)
  | still tl =>
    show wpStill P ops w _ (o :: rest) a
    unfold wpStill
    rw [gok_wanted ha hw, hd]
    exact h1
  | one =>
    refine ⟨undef, .inr ⟨gok_wanted ha hw, rfl⟩, ?_⟩
    rw [hd]
    exact h1
theorem sy_skip0 (hw : gok ops f o.guard = some false) (hd : o.dst = none) (k : Sy m P ops Q n D w0 M h0 rest f h H) : Sy m P ops Q n D w0 M h0 (o :: rest) f h H := by
  intro a w ha hs
  have h1 := k _ w ha hs
  cases m with
  | txt =>
    unfold Wk wpList
    rw [gok_wanted ha hw, hd]
    exact h1
  | qui =>
    unfold Wk wpQuiet
    rw [gok_wanted ha hw, hd]
    exact h1
  | held E => exact fun hh => held_val (E := E) (E' := E) hh hs.tail (.inr ⟨gok_wanted ha hw, rfl⟩) (by rw [hd]; exact h1)
  | still tl =>
    show wpStill P ops w _ (o :: rest) a
    unfold wpStill
    rw [gok_wanted ha hw, hd]
    exact h1
  | one =>
    refine ⟨undef, .inr ⟨gok_wanted ha hw, rfl⟩, ?_⟩
    rw [hd]
    exact h1

/-- An operation that yields v and leaves the world as the state tells. -/
theorem sy_val {d : Nat} {v : Value} (hw : gok ops f o.guard = some true) (hd : o.dst = some d) (hn : Nat.blt d n = true)
    (hrun : ∀ a w, Holds n D f a → St w0 M h0 h H w → (execOp a.eval o).run P w = .ok (.value v) w) (k : Sy m P ops Q n D w0 M h0 rest ((d, v) :: f) h H) : Sy m P ops Q n D w0 M h0 (o :: rest) f h H := by
  intro a w ha hs
  have h1 := k _ w (ha.put d v hn) hs
  cases m with
  | txt =>
    unfold Wk wpList
    rw [if_pos (gok_wanted ha hw)]
    refine .inl ?_
    unfold Oper.wp
    rw [hrun a w ha hs]
    show wpList P ops Q rest (a.put o.dst v) w
    rw [hd]
    exact h1
  | qui =>
    unfold Wk wpQuiet
    rw [if_pos (gok_wanted ha hw)]
    refine ⟨v, fun w' hw' => ?_, ?_⟩
    · unfold Oper.quietAt
      rw [hrun a w' ha hw']
      exact ⟨rfl, rfl⟩
    · rw [hd]
      exact h1
  | held E => exact fun hh => held_val (E := E) (E' := E) hh hs.tail (.inl ⟨gok_wanted ha hw, fun w' hw' => hrun a w' ha hw'⟩) (by rw [hd]; exact h1)
  | still tl =>
    show wpStill P ops w _ (o :: rest) a
    unfold wpStill
    rw [if_pos (gok_wanted ha hw)]
    unfold Oper.still
    rw [hrun a w ha hs]
    refine ⟨rfl, ?_⟩
    rw [hd]
    exact h1
  | one =>
    refine ⟨v, .inl ⟨gok_wanted ha hw, fun w' hw' => hrun a w' ha hw'⟩, ?_⟩
    rw [hd]
    exact h1
/-- A call that leaves all memory as it is, but for what is new. -/
theorem sy_enter {d : Nat} {v : Value} {F : Nat} {args : Array Value} (hm : m.plain = true) (hw : gok ops f o.guard = some true) (hd : o.dst = some d) (hn : Nat.blt d n = true)
    (hrun : ∀ a w, Holds n D f a → (execOp a.eval o).run P w = .ok (.enter F args) w) (hc : ∀ w, St w0 M h0 h H w → Calls P F args w fun e w' => e = .returned v ∧ Frm w [] w')
    (k : Sy m P ops Q n D w0 M h0 rest ((d, v) :: f) h H) : Sy m P ops Q n D w0 M h0 (o :: rest) f h H := by
  intro a w ha hs
  cases m with
  | txt =>
    unfold Wk wpList
    rw [if_pos (gok_wanted ha hw)]
    refine .inl ?_
    unfold Oper.wp
    rw [hrun a w ha]
    refine (hc w hs).mono fun e w' ⟨he, hf⟩ => ?_
    subst he
    show wpList P ops Q rest (a.put o.dst v) w'
    rw [hd]
    exact k _ w' (ha.put d v hn) (hs.grow hf)
  | qui =>
    unfold Wk wpQuiet
    rw [if_pos (gok_wanted ha hw)]
    refine ⟨v, fun w' hw' => ?_, ?_⟩
    · unfold Oper.quietAt
      rw [hrun a w' ha]
      exact ⟨rfl, (hc w' hw').mono fun e w'' ⟨he, hf⟩ => ⟨he, hw'.grow hf⟩⟩
    · rw [hd]
      exact k _ w (ha.put d v hn) hs
  | held E => cases hm
  | still tl => cases hm
  | one => cases hm
/-- The table without what is no longer wanted. -/
theorem sy_weak {f' : Tab} (hl : Tab.Le f' f) (k : Sy m P ops Q n D w0 M h0 rest f' h H) : Sy m P ops Q n D w0 M h0 rest f h H := fun a w ha hs => k a w (ha.weak hl) hs
theorem cy_weak {c : Code} {f' : Tab} (hl : Tab.Le f' f) (k : Cy P c Q n D w0 M h0 f' h H) : Cy P c Q n D w0 M h0 f h H := fun a w ha hs => k a w (ha.weak hl) hs
theorem sy_cond {d : Nat} (e : Bool) (hd : f.get d = some (.bool e)) (hn : Nat.blt d n = true) (kt : e = true → Sy m P ops Q n D w0 M h0 rest ((d, .bool true) :: f) h H) (kf : e = false → Sy m P ops Q n D w0 M h0 rest ((d, .bool false) :: f) h H) :
    Sy m P ops Q n D w0 M h0 rest f h H := fun a w ha hs => by
  have key : ∀ b : Bool, e = b → Holds n D ((d, .bool b) :: f) a := fun b hb => by
    subst hb
    refine ⟨ha.size, ha.defers, fun i v hi => ?_⟩
    unfold Tab.get at hi
    cases hbq : Nat.beq i d with
    | true =>
      rw [hbq] at hi
      simp only [cond_true, Option.some.injEq] at hi
      subst hi
      have := Nat.eq_of_beq_eq_true hbq
      subst this
      exact ha.get _ _ hd
    | false =>
      rw [hbq] at hi
      exact ha.get i v hi
  cases he : e with
  | true => exact kt he a w (key _ he) hs
  | false => exact kf he a w (key _ he) hs

/-! facts of the program's types, each a Bool for the kernel -/
def fldB (P : Program) (s i off : Nat) : Bool :=
  match P.underlying s with
  | some (.struct fs) => (match fs[i]? with
    | some fl => (match P.info? fl.type with
      | some inf => inf.size != 0 && fl.offset == off
      | none => false)
    | none => false)
  | _ => false
def elsB (P : Program) (s e sz : Nat) : Bool :=
  (match P.underlying s with
  | some (.slice e') => e' == e
  | _ => false) && (match P.info? e with | some inf => inf.size == sz | none => false)
def arrB (P : Program) (s len sz : Nat) : Bool :=
  match P.underlying s with
  | some (.array l e) => l == len && (match P.info? e with | some inf => inf.size == sz | none => false)
  | _ => false
def oneB (P : Program) (t : Nat) : Bool :=
  match P.underlying t with
  | some (.struct _) => false
  | some (.array _ _) => false
  | some _ => true
  | none => false
def aggB (P : Program) (t sz : Nat) : Bool :=
  (match P.underlying t with
  | some (.struct _) => true
  | some (.array _ _) => true
  | _ => false) && (match P.info? t with | some inf => inf.size == sz | none => false)
theorem fld_spec {P : Program} {s i off : Nat} (h : fldB P s i off = true) : ∃ fs fl inf, P.underlying s = some (.struct fs) ∧ fs[i]? = some fl ∧ P.info? fl.type = some inf ∧ inf.size ≠ 0 ∧ fl.offset = off := by
  unfold fldB at h
  split at h
  · rename_i fs hs
    split at h
    · rename_i fl hf
      split at h
      · rename_i inf hi
        simp only [Bool.and_eq_true, bne_iff_ne, beq_iff_eq] at h
        exact ⟨fs, fl, inf, hs, hf, hi, h.1, h.2⟩
      · cases h
    · cases h
  · cases h
theorem els_spec {P : Program} {s e sz : Nat} (h : elsB P s e sz = true) : P.underlying s = some (.slice e) ∧ ∃ inf, P.info? e = some inf ∧ inf.size = sz := by
  unfold elsB at h
  rw [Bool.and_eq_true] at h
  obtain ⟨h1, h2⟩ := h
  split at h1
  · rename_i e' he
    have : e' = e := by simpa using h1
    subst this
    refine ⟨he, ?_⟩
    split at h2
    · rename_i inf hi
      exact ⟨inf, hi, by simpa using h2⟩
    · cases h2
  · cases h1
theorem arr_spec {P : Program} {s len sz : Nat} (h : arrB P s len sz = true) : ∃ e inf, P.underlying s = some (.array len e) ∧ P.info? e = some inf ∧ inf.size = sz := by
  unfold arrB at h
  split at h
  · rename_i l e he
    rw [Bool.and_eq_true] at h
    obtain ⟨h1, h2⟩ := h
    have : l = len := by simpa using h1
    subst this
    split at h2
    · rename_i inf hi
      exact ⟨e, inf, he, hi, by simpa using h2⟩
    · cases h2
  · cases h
theorem one_spec {P : Program} {t : Nat} (h : oneB P t = true) (w : World) : (isAgg t).run P w = .ok false w := by
  unfold oneB at h
  cases hu : P.underlying t with
  | none => rw [hu] at h; cases h
  | some d =>
    rw [hu] at h
    cases d <;> first | (simp at h; done) | simp [isAgg, run_underlying hu]
theorem agg_spec {P : Program} {t sz : Nat} (h : aggB P t sz = true) (w : World) : (isAgg t).run P w = .ok true w ∧ (sizeOf t).run P w = .ok sz w := by
  unfold aggB at h
  rw [Bool.and_eq_true] at h
  obtain ⟨h1, h2⟩ := h
  constructor
  · cases hu : P.underlying t with
    | none => rw [hu] at h1; cases h1
    | some d =>
      rw [hu] at h1
      cases d <;> first | (simp at h1; done) | simp [isAgg, run_underlying hu]
  · split at h2
    · rename_i inf hi
      have : inf.size = sz := by simpa using h2
      simp [sizeOf, typeInfo, hi, this]
    · cases h2
theorem Addr.add_at (g off j : Nat) : (⟨g, off, none⟩ : Addr).add j = ⟨g, off + j, none⟩ := by unfold Addr.add; split <;> simp_all
theorem equal_bool {s : Nat} {P : Program} (hs : P.underlying s = some .bool) (b1 b2 : Bool) (w : World) : (Op.equal s (.bool b1) (.bool b2)).run P w = .ok (b1 == b2) w := by
  have h : ∀ d, (Op.equalIn (d + 1) s (.bool b1) (.bool b2)).run P w = .ok (b1 == b2) w := fun d => by simp [Op.equalIn, run_underlying hs]
  exact h 9999
theorem equal_ptr_nil {s e : Nat} {P : Program} (hs : P.underlying s = some (.pointer e)) (a1 : Option Addr) (w : World) : (Op.equal s (.pointer a1) (.pointer none)).run P w = .ok a1.isNone w := by
  have h : ∀ d, (Op.equalIn (d + 1) s (.pointer a1) (.pointer none)).run P w = .ok a1.isNone w := fun d => by cases a1 <;> simp [Op.equalIn, run_underlying hs]
  exact h 9999
theorem sy_setT {d : Nat} {e : Bool} (hd : f.get d = some (.bool e)) (hn : Nat.blt d n = true) (he : e = true) (k : Sy m P ops Q n D w0 M h0 rest ((d, .bool true) :: f) h H) : Sy m P ops Q n D w0 M h0 rest f h H :=
  sy_cond e hd hn (fun _ => k) (fun h1 => by rw [h1] at he; cases he)
theorem sy_setF {d : Nat} {e : Bool} (hd : f.get d = some (.bool e)) (hn : Nat.blt d n = true) (he : e = false) (k : Sy m P ops Q n D w0 M h0 rest ((d, .bool false) :: f) h H) : Sy m P ops Q n D w0 M h0 rest f h H :=
  sy_cond e hd hn (fun h1 => by rw [h1] at he; cases he) (fun _ => k)
section ops
variable {d t s : Nat} {p : String} {af : Array Edge} {g : Option (Nat × Bool)}

theorem sy_move {x : Operand} {v : Value} (hx : f.ev x = some v) (hw : gok ops f g = some true) (hn : Nat.blt d n = true) (k : Sy m P ops Q n D w0 M h0 rest ((d, v) :: f) h H) :
    Sy m P ops Q n D w0 M h0 (⟨some d, .move x, t, p, af, g⟩ :: rest) f h H := sy_val hw rfl hn (fun a w ha _ => by simp [execOp, ha.ev hx]) k
theorem sy_assign {x : Operand} {v : Value} (hx : f.ev x = some v) (hw : gok ops f g = some true) (hn : Nat.blt d n = true) (k : Sy m P ops Q n D w0 M h0 rest ((d, v) :: f) h H) :
    Sy m P ops Q n D w0 M h0 (⟨some d, .assign x, t, p, af, g⟩ :: rest) f h H := sy_val hw rfl hn (fun a w ha _ => by simp [execOp, ha.ev hx]) k
theorem sy_pickT {c x y : Operand} {v : Value} (hc : f.ev c = some (.bool true)) (hx : f.ev x = some v) (hw : gok ops f g = some true) (hn : Nat.blt d n = true) (k : Sy m P ops Q n D w0 M h0 rest ((d, v) :: f) h H) :
    Sy m P ops Q n D w0 M h0 (⟨some d, .pick c x y, t, p, af, g⟩ :: rest) f h H := sy_val hw rfl hn (fun a w ha _ => by simp [execOp, ha.ev hx, ha.ev hc, asBool]) k
theorem sy_pickF {c x y : Operand} {v : Value} (hc : f.ev c = some (.bool false)) (hy : f.ev y = some v) (hw : gok ops f g = some true) (hn : Nat.blt d n = true) (k : Sy m P ops Q n D w0 M h0 rest ((d, v) :: f) h H) :
    Sy m P ops Q n D w0 M h0 (⟨some d, .pick c x y, t, p, af, g⟩ :: rest) f h H := sy_val hw rfl hn (fun a w ha _ => by simp [execOp, ha.ev hy, ha.ev hc, asBool]) k
theorem sy_nilCheck {x : Operand} {ad : Addr} (hx : f.ev x = some (.pointer (some ad))) (hw : gok ops f g = some true) (hn : Nat.blt d n = true) (k : Sy m P ops Q n D w0 M h0 rest ((d, .pointer (some ad)) :: f) h H) :
    Sy m P ops Q n D w0 M h0 (⟨some d, .nilCheck x, t, p, af, g⟩ :: rest) f h H := sy_val hw rfl hn (fun a w ha _ => by simp [execOp, ha.ev hx]) k
theorem sy_not {x : Operand} {b : Bool} (hx : f.ev x = some (.bool b)) (hw : gok ops f g = some true) (hn : Nat.blt d n = true) (k : Sy m P ops Q n D w0 M h0 rest ((d, .bool (!b)) :: f) h H) :
    Sy m P ops Q n D w0 M h0 (⟨some d, .unOp .not s x, t, p, af, g⟩ :: rest) f h H := sy_val hw rfl hn (fun a w ha _ => by simp [execOp, ha.ev hx, Op.unary]) k
theorem sy_extract {x : Operand} {vs : Array Value} {i : Nat} {v : Value} (hx : f.ev x = some (.tuple vs)) (hi : vs[i]? = some v) (hw : gok ops f g = some true) (hn : Nat.blt d n = true) (k : Sy m P ops Q n D w0 M h0 rest ((d, v) :: f) h H) :
    Sy m P ops Q n D w0 M h0 (⟨some d, .extract x i, t, p, af, g⟩ :: rest) f h H := sy_val hw rfl hn (fun a w ha _ => by simp [execOp, ha.ev hx, Instr.extract, hi]) k

/-! whole numbers -/
theorem sy_cmp {op : BinOp} {x y : Operand} {ik : IntKind} {m1 m2 : Int} {b : Bool} {s2 : Nat} (hx : f.ev x = some (.int ik m1)) (hy : f.ev y = some (.int ik m2))
    (hb : match op with | .eql => b = (m1 == m2) | .neq => b = (m1 != m2) | .lss => b = decide (m1 < m2) | .leq => b = decide (m1 ≤ m2) | .gtr => b = decide (m1 > m2) | .geq => b = decide (m1 ≥ m2) | _ => False)
    (hw : gok ops f g = some true) (hn : Nat.blt d n = true) (k : Sy m P ops Q n D w0 M h0 rest ((d, .bool b) :: f) h H) :
    Sy m P ops Q n D w0 M h0 (⟨some d, .binOp op s x y s2, t, p, af, g⟩ :: rest) f h H := by
  refine sy_val hw rfl hn (fun a w ha _ => ?_) k
  cases op <;> simp only at hb <;> first | exact hb.elim | (subst hb; simp [execOp, ha.ev hx, ha.ev hy, eqGuard_at_int, binOp, Op.intCmp])
theorem sy_add {x y : Operand} {ik : IntKind} {m1 m2 : Int} {s2 : Nat} (hx : f.ev x = some (.int ik m1)) (hy : f.ev y = some (.int ik m2)) (hw : gok ops f g = some true) (hn : Nat.blt d n = true)
    (k : Sy m P ops Q n D w0 M h0 rest ((d, .int ik (ik.wrap (m1 + m2))) :: f) h H) : Sy m P ops Q n D w0 M h0 (⟨some d, .binOp .add s x y s2, t, p, af, g⟩ :: rest) f h H :=
  sy_val hw rfl hn (fun a w ha _ => by simp [execOp, ha.ev hx, ha.ev hy, binOp, Op.intArith, eqGuard_add]) k
theorem sy_sub {x y : Operand} {ik : IntKind} {m1 m2 : Int} {s2 : Nat} (hx : f.ev x = some (.int ik m1)) (hy : f.ev y = some (.int ik m2)) (hw : gok ops f g = some true) (hn : Nat.blt d n = true)
    (k : Sy m P ops Q n D w0 M h0 rest ((d, .int ik (ik.wrap (m1 - m2))) :: f) h H) : Sy m P ops Q n D w0 M h0 (⟨some d, .binOp .sub s x y s2, t, p, af, g⟩ :: rest) f h H :=
  sy_val hw rfl hn (fun a w ha _ => by simp [execOp, ha.ev hx, ha.ev hy, binOp, Op.intArith, eqGuard_sub]) k
theorem sy_mul {x y : Operand} {ik : IntKind} {m1 m2 : Int} {s2 : Nat} (hx : f.ev x = some (.int ik m1)) (hy : f.ev y = some (.int ik m2)) (hw : gok ops f g = some true) (hn : Nat.blt d n = true)
    (k : Sy m P ops Q n D w0 M h0 rest ((d, .int ik (ik.wrap (m1 * m2))) :: f) h H) : Sy m P ops Q n D w0 M h0 (⟨some d, .binOp .mul s x y s2, t, p, af, g⟩ :: rest) f h H :=
  sy_val hw rfl hn (fun a w ha _ => by simp [execOp, ha.ev hx, ha.ev hy, binOp, Op.intArith, eqGuard_mul]) k
/-- a sum that fits its kind, in whatever spelling z -/
theorem sy_addi {x y : Operand} {m1 m2 z : Int} {s2 : Nat} (hx : f.ev x = some (.int .i64 m1)) (hy : f.ev y = some (.int .i64 m2)) (hz : m1 + m2 = z) (hl : -9223372036854775808 ≤ z) (hu : z ≤ 9223372036854775807) (hw : gok ops f g = some true) (hn : Nat.blt d n = true)
    (k : Sy m P ops Q n D w0 M h0 rest ((d, .int .i64 z) :: f) h H) : Sy m P ops Q n D w0 M h0 (⟨some d, .binOp .add s x y s2, t, p, af, g⟩ :: rest) f h H :=
  sy_add hx hy hw hn (by rw [hz, IntWalk.i64_in z ⟨hl, hu⟩]; exact k)
theorem sy_subi {x y : Operand} {m1 m2 z : Int} {s2 : Nat} (hx : f.ev x = some (.int .i64 m1)) (hy : f.ev y = some (.int .i64 m2)) (hz : m1 - m2 = z) (hl : -9223372036854775808 ≤ z) (hu : z ≤ 9223372036854775807) (hw : gok ops f g = some true) (hn : Nat.blt d n = true)
    (k : Sy m P ops Q n D w0 M h0 rest ((d, .int .i64 z) :: f) h H) : Sy m P ops Q n D w0 M h0 (⟨some d, .binOp .sub s x y s2, t, p, af, g⟩ :: rest) f h H :=
  sy_sub hx hy hw hn (by rw [hz, IntWalk.i64_in z ⟨hl, hu⟩]; exact k)
theorem sy_muli {x y : Operand} {m1 m2 z : Int} {s2 : Nat} (hx : f.ev x = some (.int .i64 m1)) (hy : f.ev y = some (.int .i64 m2)) (hz : m1 * m2 = z) (hl : -9223372036854775808 ≤ z) (hu : z ≤ 9223372036854775807) (hw : gok ops f g = some true) (hn : Nat.blt d n = true)
    (k : Sy m P ops Q n D w0 M h0 rest ((d, .int .i64 z) :: f) h H) : Sy m P ops Q n D w0 M h0 (⟨some d, .binOp .mul s x y s2, t, p, af, g⟩ :: rest) f h H :=
  sy_mul hx hy hw hn (by rw [hz, IntWalk.i64_in z ⟨hl, hu⟩]; exact k)
/-- any operation of two numbers, its answer told -/
theorem sy_bin {op : BinOp} {x y : Operand} {i1 i2 i3 : IntKind} {m1 m2 z : Int} {s2 : Nat} (hx : f.ev x = some (.int i1 m1)) (hy : f.ev y = some (.int i2 m2))
    (hop : op ≠ .eql ∧ op ≠ .neq) (hr : ∀ w, (binOp op s (.int i1 m1) (.int i2 m2)).run P w = .ok (.int i3 z) w) (hw : gok ops f g = some true) (hn : Nat.blt d n = true)
    (k : Sy m P ops Q n D w0 M h0 rest ((d, .int i3 z) :: f) h H) : Sy m P ops Q n D w0 M h0 (⟨some d, .binOp op s x y s2, t, p, af, g⟩ :: rest) f h H :=
  sy_val hw rfl hn (fun a w ha _ => by
    have he : eqGuard op s x y (.int i1 m1) (.int i2 m2) = pure () := by cases op <;> rfl
    simp [execOp, ha.ev hx, ha.ev hy, he, hr]) k
theorem sy_conv {x : Operand} {i1 i2 : IntKind} {mm : Int} {s2 : Nat} (hs : P.underlying s = some (.int i1)) (ht : P.underlying s2 = some (.int i2)) (hx : f.ev x = some (.int i1 mm)) (hw : gok ops f g = some true) (hn : Nat.blt d n = true)
    (k : Sy m P ops Q n D w0 M h0 rest ((d, .int i2 (i2.wrap mm)) :: f) h H) : Sy m P ops Q n D w0 M h0 (⟨some d, .convert s s2 x, t, p, af, g⟩ :: rest) f h H :=
  sy_val hw rfl hn (fun a w ha _ => by simp [execOp, ha.ev hx, convert, run_underlying hs, run_underlying ht, Conv.intToInt]) k

/-- .. to int, of a number that fits -/
theorem sy_convi {x : Operand} {i1 : IntKind} {mm : Int} {s2 : Nat} (hs : P.underlying s = some (.int i1)) (ht : P.underlying s2 = some (.int .i64)) (hx : f.ev x = some (.int i1 mm)) (hl : -9223372036854775808 ≤ mm) (hu : mm ≤ 9223372036854775807) (hw : gok ops f g = some true) (hn : Nat.blt d n = true)
    (k : Sy m P ops Q n D w0 M h0 rest ((d, .int .i64 mm) :: f) h H) : Sy m P ops Q n D w0 M h0 (⟨some d, .convert s s2 x, t, p, af, g⟩ :: rest) f h H :=
  sy_conv hs ht hx hw hn (by rw [IntWalk.i64_in mm ⟨hl, hu⟩]; exact k)
theorem run_rem {P : Program} {s : Nat} {a b z : Int} (h0 : 0 ≤ a) (h1 : 0 < b) (hb : b ≤ 9223372036854775807) (hz : a % b = z) (w : World) : (binOp .rem s (.int .i64 a) (.int .i64 b)).run P w = .ok (.int .i64 z) w := by
  have h2 : a.tmod b = a % b := Int.tmod_eq_emod_of_nonneg h0
  have h3 := Int.emod_nonneg a (show b ≠ 0 by omega)
  have h4 := Int.emod_lt_of_pos a h1
  have h5 : ¬ b = 0 := by omega
  have h6 : ¬ b = -1 := by omega
  subst hz
  simp [binOp, Op.intDiv, h5, h2, IntWalk.i64_in (a % b) ⟨by omega, by omega⟩]
/-- a remainder of what is not negative -/
theorem sy_rem {x y : Operand} {m1 m2 z : Int} {s2 : Nat} (hx : f.ev x = some (.int .i64 m1)) (hy : f.ev y = some (.int .i64 m2)) (h0' : 0 ≤ m1) (h1 : 0 < m2) (hb : m2 ≤ 9223372036854775807) (hz : m1 % m2 = z) (hw : gok ops f g = some true) (hn : Nat.blt d n = true)
    (k : Sy m P ops Q n D w0 M h0 rest ((d, .int .i64 z) :: f) h H) : Sy m P ops Q n D w0 M h0 (⟨some d, .binOp .rem s x y s2, t, p, af, g⟩ :: rest) f h H :=
  sy_bin hx hy ⟨by simp, by simp⟩ (fun w => run_rem h0' h1 hb hz w) hw hn k
/-! bools, strings, pointers -/
theorem sy_eqb {x y : Operand} {b1 b2 : Bool} {s2 : Nat} (hs : P.underlying s = some .bool) (hx : f.ev x = some (.bool b1)) (hy : f.ev y = some (.bool b2)) (hw : gok ops f g = some true) (hn : Nat.blt d n = true)
    (k : Sy m P ops Q n D w0 M h0 rest ((d, .bool (b1 == b2)) :: f) h H) : Sy m P ops Q n D w0 M h0 (⟨some d, .binOp .eql s x y s2, t, p, af, g⟩ :: rest) f h H :=
  sy_val hw rfl hn (fun a w ha _ => by simp [execOp, ha.ev hx, ha.ev hy, eqGuard_at_bool, binOp, equal_bool hs]) k
theorem sy_neb {x y : Operand} {b1 b2 : Bool} {s2 : Nat} (hs : P.underlying s = some .bool) (hx : f.ev x = some (.bool b1)) (hy : f.ev y = some (.bool b2)) (hw : gok ops f g = some true) (hn : Nat.blt d n = true)
    (k : Sy m P ops Q n D w0 M h0 rest ((d, .bool (!(b1 == b2))) :: f) h H) : Sy m P ops Q n D w0 M h0 (⟨some d, .binOp .neq s x y s2, t, p, af, g⟩ :: rest) f h H :=
  sy_val hw rfl hn (fun a w ha _ => by simp [execOp, ha.ev hx, ha.ev hy, eqGuard_at_bool, binOp, equal_bool hs]) k
theorem sy_eqs {x y : Operand} {b1 b2 : ByteArray} {s2 : Nat} (hx : f.ev x = some (.string b1)) (hy : f.ev y = some (.string b2)) (hw : gok ops f g = some true) (hn : Nat.blt d n = true)
    (k : Sy m P ops Q n D w0 M h0 rest ((d, .bool (b1.data.toList == b2.data.toList)) :: f) h H) : Sy m P ops Q n D w0 M h0 (⟨some d, .binOp .eql s x y s2, t, p, af, g⟩ :: rest) f h H :=
  sy_val hw rfl hn (fun a w ha _ => by simp [execOp, ha.ev hx, ha.ev hy, eqGuard_at_string, binOp, Op.stringOp, ByteArray.toList_eq]) k
theorem sy_nes {x y : Operand} {b1 b2 : ByteArray} {s2 : Nat} (hx : f.ev x = some (.string b1)) (hy : f.ev y = some (.string b2)) (hw : gok ops f g = some true) (hn : Nat.blt d n = true)
    (k : Sy m P ops Q n D w0 M h0 rest ((d, .bool (!(b1.data.toList == b2.data.toList))) :: f) h H) : Sy m P ops Q n D w0 M h0 (⟨some d, .binOp .neq s x y s2, t, p, af, g⟩ :: rest) f h H :=
  sy_val hw rfl hn (fun a w ha _ => by simp [execOp, ha.ev hx, ha.ev hy, eqGuard_at_string, binOp, Op.stringOp, ByteArray.toList_eq]) k
theorem sy_cat {x y : Operand} {b1 b2 : ByteArray} {s2 : Nat} (hx : f.ev x = some (.string b1)) (hy : f.ev y = some (.string b2)) (hsz : b1.size + b2.size ≤ 9223372036854775807) (hw : gok ops f g = some true) (hn : Nat.blt d n = true)
    (k : Sy m P ops Q n D w0 M h0 rest ((d, .string (b1 ++ b2)) :: f) h H) : Sy m P ops Q n D w0 M h0 (⟨some d, .binOp .add s x y s2, t, p, af, g⟩ :: rest) f h H :=
  sy_val hw rfl hn (fun a w ha _ => by
    have h2 : ¬ (((b1.size + b2.size : Nat) : Int) > IntKind.i64.max) := by rw [IntKind.max_i64]; omega
    have h3 : ¬ ((9223372036854775807 : Int) < (b1.size : Int) + (b2.size : Int)) := by omega
    simp [execOp, ha.ev hx, ha.ev hy, eqGuard_add, binOp, Op.stringOp, h3]) k
theorem sy_eqp {op : BinOp} {x y : Operand} {e : Nat} {a1 : Option Addr} {b : Bool} {s2 : Nat} (hs : P.underlying s = some (.pointer e)) (hx : f.ev x = some (.pointer a1)) (hy : f.ev y = some (.pointer none))
    (hb : match op with | .eql => b = a1.isNone | .neq => b = !a1.isNone | _ => False) (hw : gok ops f g = some true) (hn : Nat.blt d n = true)
    (k : Sy m P ops Q n D w0 M h0 rest ((d, .bool b) :: f) h H) : Sy m P ops Q n D w0 M h0 (⟨some d, .binOp op s x y s2, t, p, af, g⟩ :: rest) f h H := by
  refine sy_val hw rfl hn (fun a w ha _ => ?_) k
  cases op <;> simp only at hb <;> first | exact hb.elim | (subst hb; simp [execOp, ha.ev hx, ha.ev hy, eqGuard_at_pointer, binOp, equal_ptr_nil hs])
theorem sy_len {x : Operand} {s1 : Nat} {z : Int} {v : Value} (hx : f.ev x = some v) (hz : ∀ w, (Builtin.len_ #[s1] t #[v]).run P w = .ok (.int .i64 z) w) (hw : gok ops f g = some true) (hn : Nat.blt d n = true)
    (k : Sy m P ops Q n D w0 M h0 rest ((d, .int .i64 z) :: f) h H) : Sy m P ops Q n D w0 M h0 (⟨some d, .call ⟨.builtin .len, #[x], #[s1]⟩, t, p, af, g⟩ :: rest) f h H :=
  sy_val hw rfl hn (fun a w ha _ => by simp [execOp, resolve, invoke, builtin, ha.ev hx, hz]) k
theorem len_slice {P : Program} {s1 e t : Nat} (hs : P.underlying s1 = some (.slice e)) (a : Option Addr) (m c : Nat) (w : World) : (Builtin.len_ #[s1] t #[.slice a m c]).run P w = .ok (.int .i64 (m : Int)) w := by
  simp [Builtin.len_, run_underlying hs, goInt]
theorem len_string {P : Program} {s1 t : Nat} (hs : P.underlying s1 = some .string) (s : ByteArray) (w : World) : (Builtin.len_ #[s1] t #[.string s]).run P w = .ok (.int .i64 (s.size : Int)) w := by
  simp [Builtin.len_, run_underlying hs, goInt]
theorem sy_idxs {x y : Operand} {bs : ByteArray} {ik : IntKind} {i : Int} {u : UInt8} (hs : P.underlying s = some .string) (hx : f.ev x = some (.string bs)) (hy : f.ev y = some (.int ik i)) (h0' : 0 ≤ i) (hu : bs[i.toNat]? = some u) (hw : gok ops f g = some true) (hn : Nat.blt d n = true)
    (k : Sy m P ops Q n D w0 M h0 rest ((d, .int .u8 (u.toNat : Int)) :: f) h H) : Sy m P ops Q n D w0 M h0 (⟨some d, .index s x y, t, p, af, g⟩ :: rest) f h H :=
  sy_val hw rfl hn (fun a w ha _ => by simp [execOp, ha.ev hx, ha.ev hy, Instr.index, asIntOf, run_underlying hs, h0', hu]) k

/-! places -/
theorem sy_field {x : Operand} {b off i o : Nat} (hs : fldB P s i o = true) (hx : f.ev x = some (.pointer (some ⟨b, off, none⟩))) (hw : gok ops f g = some true) (hn : Nat.blt d n = true)
    (k : Sy m P ops Q n D w0 M h0 rest ((d, .pointer (some ⟨b, off + o, none⟩)) :: f) h H) : Sy m P ops Q n D w0 M h0 (⟨some d, .fieldAddr s x i, t, p, af, g⟩ :: rest) f h H := by
  obtain ⟨fs, fl, inf, h1, h2, h3, h4, h5⟩ := fld_spec hs
  exact sy_val hw rfl hn (fun a w ha _ => by simp [execOp, ha.ev hx, Instr.fieldAt, run_underlying h1, h2, Instr.sureAddr, fieldPlace, sizeOf, typeInfo, h3, h4, h5, Addr.add_at]) k
theorem sy_idxA {x y : Operand} {b off len sz : Nat} {ik : IntKind} {i : Int} (hs : arrB P s len sz = true) (hx : f.ev x = some (.pointer (some ⟨b, off, none⟩))) (hy : f.ev y = some (.int ik i)) (h0' : 0 ≤ i) (h1 : i < len)
    (hw : gok ops f g = some true) (hn : Nat.blt d n = true)
    (k : Sy m P ops Q n D w0 M h0 rest ((d, .pointer (some ⟨b, off + i.toNat * sz, none⟩)) :: f) h H) : Sy m P ops Q n D w0 M h0 (⟨some d, .indexAddr s x y, t, p, af, g⟩ :: rest) f h H := by
  obtain ⟨e, inf, h2, h3, h4⟩ := arr_spec hs
  exact sy_val hw rfl hn (fun a w ha _ => by simp [execOp, ha.ev hx, ha.ev hy, Instr.indexAt, asIntOf, run_underlying h2, Instr.sureAddr, h0', h1, sizeOf, typeInfo, h3, h4, Addr.add_at]) k
theorem sy_idxS {x y : Operand} {b off len cap e sz : Nat} {ik : IntKind} {i : Int} (hs : elsB P s e sz = true) (hx : f.ev x = some (.slice (some ⟨b, off, none⟩) len cap)) (hy : f.ev y = some (.int ik i)) (h0' : 0 ≤ i) (h1 : i < len)
    (hw : gok ops f g = some true) (hn : Nat.blt d n = true)
    (k : Sy m P ops Q n D w0 M h0 rest ((d, .pointer (some ⟨b, off + i.toNat * sz, none⟩)) :: f) h H) : Sy m P ops Q n D w0 M h0 (⟨some d, .indexAddr s x y, t, p, af, g⟩ :: rest) f h H := by
  obtain ⟨h2, inf, h3, h4⟩ := els_spec hs
  exact sy_val hw rfl hn (fun a w ha _ => by simp [execOp, ha.ev hx, ha.ev hy, Instr.indexAt, asIntOf, run_underlying h2, h0', h1, sizeOf, typeInfo, h3, h4, Addr.add_at]) k
end ops
end
end Go.Proofs.Ytdbeiaohibgmeaa.E

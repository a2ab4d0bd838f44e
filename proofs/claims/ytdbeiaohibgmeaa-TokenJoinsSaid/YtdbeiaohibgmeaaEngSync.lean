/- Calls of functions without a body, deferred calls, bound functions, methods of interface values; contracts that turn one block and make data. Conditions: none; plain lemmas. -/
import Derived.Test.YtdbeiaohibgmeaaEngStr
import Derived.Defers
import Derived.Laws.LoneSync
set_option linter.unusedVariables false
set_option linter.unusedSimpArgs false
namespace Go.Proofs.Ytdbeiaohibgmeaa.E
open Go.RowKit
/-- it turns block g, and makes data -/
def CXM {X : Type} (P : Program) (F : Nat) (vs : List Value) (h : Hp) (g : Nat) (o : Obj) (rv : X → Value) (Φ : X → Hp → Obj → Prop) : Prop :=
  ∀ w, h.Sub w → h g = none → w.heap[g]? = some o → Calls P F vs.toArray w fun e w' => ∃ x h' o', e = .returned (rv x) ∧ Φ x h' o' ∧ Frm w [g] w' ∧ h'.Sub w' ∧ h.Le h' ∧ (∀ k, k < w.heap.size → h' k = h k) ∧ w'.heap[g]? = some o'
/-- a deferred call that turns block g -/
def CMD (P : Program) (F : Nat) (vs : List Value) (h : Hp) (g : Nat) (o o' : Obj) : Prop :=
  ∀ u w, h.Sub w → h g = none → w.heap[g]? = some o → CallsD P F vs.toArray u w fun e u' w' => u' = u ∧ (∃ v, e = .returned v) ∧ Frm w [g] w' ∧ w'.heap[g]? = some o'
section
variable {m : Md} {P : Program} {ops : Array Oper} {Q : Exit → Act → World → Prop} {n : Nat} {D : List Deferred} {w0 : World} {M : List Nat} {h0 : Hp}
variable {f : Tab} {h : Hp} {H : List Res} {rest : List Oper} {o : Oper}
theorem St.turned {w w' : World} {g : Nat} {ob ob' : Obj} {H1 : List Res} {h' : Hp} (s : St w0 M h0 h (.blk g ob :: H1) w) (hf : Frm w [g] w') (hsub : h'.Sub w') (hle : h.Le h') (hold : ∀ k, k < w.heap.size → h' k = h k) (hg : w'.heap[g]? = some ob') : St w0 M h0 h' (.blk g ob' :: H1) w' := by
  have s' := s.write hf hg
  refine { frm := s'.frm, sub := hsub, le := s'.le.trans hle, old := fun k hk => (hold k (Nat.lt_of_lt_of_le hk s.frm.size)).trans (s.old k hk), ok := s'.ok, own := ?_, dis := s'.dis }
  intro r hr k hk
  have h1 := s'.own r hr k hk
  have hlt : k < w.heap.size := by
    rcases List.mem_cons.1 hr with rfl | hr'
    · simp only [Res.key, Option.some.injEq] at hk
      subst hk
      exact (Array.getElem?_eq_some_iff.1 (show w.heap[g]? = some ob from s.ok _ (List.mem_cons_self))).1
    · exact Res.Ok.lt (s.ok r (List.mem_cons_of_mem _ hr')) hk
  exact ⟨(hold k hlt).trans h1.1, h1.2⟩
section calls
variable {d t : Nat} {p : String} {af : Array Edge} {g : Option (Nat × Bool)} {F : Nat} {args : Array Operand} {tys : Array TypeId} {vs : List Value}
theorem sy_callxm {X : Type} {rv : X → Value} {b : Nat} {ob : Obj} {H1 : List Res} {Φ : X → Hp → Obj → Prop} (i : Nat) (hF : callB P F = true) (hx : f.evs args.toList = some vs) (hp : pickR i H = some (.blk b ob, H1)) (hc : CXM P F vs h b ob rv Φ) (hw : gok ops f g = some true) (hn : Nat.blt d n = true)
    (k : ∀ x h' o', Φ x h' o' → h.Le h' → Sy .txt P ops Q n D w0 M h0 rest ((d, rv x) :: f) h' (.blk b o' :: H1)) : Sy .txt P ops Q n D w0 M h0 (⟨some d, .call ⟨.value (.func F), args, tys⟩, t, p, af, g⟩ :: rest) f h H :=
  sy_op hw fun a w ha hs => by
    have hs' := hs.swap (pickR_perm hp)
    unfold Oper.wp
    rw [run_callF hF ha hx]
    refine (hc w hs.sub (hs'.own _ (List.mem_cons_self) b rfl).1 (hs'.ok _ (List.mem_cons_self))).mono fun e w' ⟨x, h', o', he, hΦ, hf, hsub, hle, hold, hg⟩ => ?_
    subst he
    exact k x h' o' hΦ hle _ w' (ha.put d _ hn) (hs'.turned hf hsub hle hold hg)
/-- .. through a bound function -/
theorem run_callB {a : Act} {w : World} {dst : Option Nat} {fv : Operand} {fs caps : List Value} (hF : callB P F = true) (ha : Holds n D f a) (hf : f.ev fv = some (.func (.func F) fs.toArray caps.toArray)) (hx : f.evs args.toList = some vs) :
    (execOp a.eval ⟨dst, .call ⟨.value fv, args, tys⟩, t, p, af, g⟩).run P w = .ok (.enter F (fs ++ vs ++ caps).toArray) w := by
  have h1 := map_evs ha hx
  have h2 : (fs ++ vs ++ caps).toArray = fs.toArray ++ vs.toArray ++ caps.toArray := by simp
  rw [h2]
  simp only [execOp, resolve, h1, ha.ev hf, Deferred.ofValue, Sem.run_bind, Sem.run_pure, Result.andThen_ok, invoke, call_spec hF]
theorem sy_callbxm {X : Type} {rv : X → Value} {fv : Operand} {fs caps : List Value} {b : Nat} {ob : Obj} {H1 : List Res} {Φ : X → Hp → Obj → Prop} (i : Nat) (hF : callB P F = true) (hf : f.ev fv = some (.func (.func F) fs.toArray caps.toArray)) (hx : f.evs args.toList = some vs) (hp : pickR i H = some (.blk b ob, H1)) (hc : CXM P F (fs ++ vs ++ caps) h b ob rv Φ) (hw : gok ops f g = some true) (hn : Nat.blt d n = true)
    (k : ∀ x h' o', Φ x h' o' → h.Le h' → Sy .txt P ops Q n D w0 M h0 rest ((d, rv x) :: f) h' (.blk b o' :: H1)) : Sy .txt P ops Q n D w0 M h0 (⟨some d, .call ⟨.value fv, args, tys⟩, t, p, af, g⟩ :: rest) f h H :=
  sy_op hw fun a w ha hs => by
    have hs' := hs.swap (pickR_perm hp)
    unfold Oper.wp
    rw [run_callB hF ha hf hx]
    refine (hc w hs.sub (hs'.own _ (List.mem_cons_self) b rfl).1 (hs'.ok _ (List.mem_cons_self))).mono fun e w' ⟨x, h', o', he, hΦ, hf, hsub, hle, hold, hg⟩ => ?_
    subst he
    exact k x h' o' hΦ hle _ w' (ha.put d _ hn) (hs'.turned hf hsub hle hold hg)
theorem sy_bind {F1 : Nat} {xs ys : Array Operand} {us vs : List Value} {s : Nat} (hx : f.evs xs.toList = some us) (hy : f.evs ys.toList = some vs) (hw : gok ops f g = some true) (hn : Nat.blt d n = true)
    (k : Sy m P ops Q n D w0 M h0 rest ((d, .func (.func F1) us.toArray vs.toArray) :: f) h H) : Sy m P ops Q n D w0 M h0 (⟨some d, .makeFunc (.func F1) xs ys, t, p, af, g⟩ :: rest) f h H :=
  sy_val hw rfl hn (fun a w ha _ => by
    have h1 := map_evs ha hx
    have h2 := map_evs ha hy
    simp [execOp, Instr.makeFunc, h1, h2]) k
/-- a function without a body that only reads -/
theorem sy_exq {v : Value} (hx : f.evs args.toList = some vs) (hr : ∀ w, St w0 M h0 h H w → (callFunc F vs.toArray).run P w = .ok (.value v) w) (hw : gok ops f g = some true) (hn : Nat.blt d n = true)
    (k : Sy m P ops Q n D w0 M h0 rest ((d, v) :: f) h H) : Sy m P ops Q n D w0 M h0 (⟨some d, .call ⟨.value (.func F), args, tys⟩, t, p, af, g⟩ :: rest) f h H :=
  sy_val hw rfl hn (fun a w ha hs => by
    have h1 := map_evs ha hx
    simp only [execOp, resolve, h1, Act.eval, Deferred.ofValue, Sem.run_bind, Sem.run_pure, Result.andThen_ok, invoke, Array.empty_append, Array.append_empty, hr w hs]) k
/-- .. that writes one cell of an owned block -/
theorem sy_exw {v old new : Value} {b off e : Nat} {cs cs' : List Value} {H1 : List Res} (i : Nat) (hx : f.evs args.toList = some vs) (hp : pickR i H = some (.blk b (.cells cs.toArray e (0, 0)), H1)) (ho : cs[off]? = some old) (hc : cs.set off new = cs')
    (hr : ∀ w, w.cell? ⟨b, off, none⟩ = some old → w.frozen? ⟨b, off, none⟩ = false → (callFunc F vs.toArray).run P w = .ok (.value v) (w.setCell ⟨b, off, none⟩ new)) (hw : gok ops f g = some true) (hn : Nat.blt d n = true)
    (k : Sy .txt P ops Q n D w0 M h0 rest ((d, v) :: f) h (.blk b (.cells cs'.toArray e (0, 0)) :: H1)) : Sy .txt P ops Q n D w0 M h0 (⟨some d, .call ⟨.value (.func F), args, tys⟩, t, p, af, g⟩ :: rest) f h H :=
  sy_op hw fun a w ha hs => by
    have hs' := hs.swap (pickR_perm hp)
    have hb : w.heap[b]? = some (.cells cs.toArray e (0, 0)) := hs'.ok _ (List.mem_cons_self)
    have hcell : w.cell? ⟨b, off, none⟩ = some old := by simp [World.cell?, hb, ho]
    have hfz : w.frozen? ⟨b, off, none⟩ = false := by simp [World.frozen?, hb]
    have h1 := map_evs ha hx
    have hrun : (execOp a.eval ⟨some d, .call ⟨.value (.func F), args, tys⟩, t, p, af, g⟩).run P w = .ok (.value v) (w.setCell ⟨b, off, none⟩ new) := by
      simp only [execOp, resolve, h1, Act.eval, Deferred.ofValue, Sem.run_bind, Sem.run_pure, Result.andThen_ok, invoke, Array.empty_append, Array.append_empty, hr w hcell hfz]
    unfold Oper.wp
    rw [hrun]
    refine k _ _ (ha.put d _ hn) (hs'.write (o' := .cells cs'.toArray e (0, 0)) ⟨rfl, rfl, rfl, by simp [World.setCell], fun j hj hm => heap_setCell_other w ⟨b, off, none⟩ j new (by simpa using hm)⟩ ?_)
    rw [heap_setCell_same w b off cs.toArray e new hb, ← hc]
    simp
/-- a call that is put off -/
theorem sy_defer (hx : f.evs args.toList = some vs) (hw : gok ops f g = some true) (k : Sy .txt P ops Q n (⟨.fn (.func F) #[], vs.toArray⟩ :: D) w0 M h0 rest f h H) :
    Sy .txt P ops Q n D w0 M h0 (⟨none, .defer ⟨.value (.func F), args, tys⟩, t, p, af, g⟩ :: rest) f h H :=
  sy_op hw fun a w ha hs => by
    have h1 := map_evs ha hx
    have hrun : (execOp a.eval ⟨none, .defer ⟨.value (.func F), args, tys⟩, t, p, af, g⟩).run P w = .ok (.defer ⟨.fn (.func F) #[], vs.toArray⟩) w := by
      simp only [execOp, resolve, h1, Act.eval, Deferred.ofValue, Sem.run_bind, Sem.run_pure, Result.andThen_ok, Array.empty_append]
    unfold Oper.wp
    rw [hrun]
    exact k _ w ⟨ha.size, by simp [Act.put, ha.defers], ha.get⟩ hs
/-- a method of an interface value -/
theorem sy_invoke {recv : Operand} {name : String} {vr v : Value} {vs2 : List Value} (hm : m.plain = true) (hr : f.ev recv = some vr) (hx : f.evs args.toList = some vs) (hmeth : ∀ w, (callMethod vr name vs.toArray).run P w = .ok (.enter F vs2.toArray) w) (hc : C0 P F vs2 h v) (hw : gok ops f g = some true) (hn : Nat.blt d n = true)
    (k : Sy m P ops Q n D w0 M h0 rest ((d, v) :: f) h H) : Sy m P ops Q n D w0 M h0 (⟨some d, .call ⟨.invoke recv name, args, tys⟩, t, p, af, g⟩ :: rest) f h H :=
  sy_enter hm hw rfl hn (fun a w ha => by
    have h1 := map_evs ha hx
    have h2 : (#[vr] ++ vs.toArray)[0]? = some vr := by simp
    have h3 : (#[vr] ++ vs.toArray).extract 1 (#[vr] ++ vs.toArray).size = vs.toArray := by
      apply Array.ext'
      simp
    simp only [execOp, resolve, h1, ha.ev hr, Sem.run_bind, Sem.run_pure, Result.andThen_ok, invoke, h2, h3, hmeth]) (fun w hs => hc w hs.sub) k
end calls
/-! the deferred calls, at the end -/
def Lv (P : Program) (fn : Func) (R : Ending → World → Prop) (n : Nat) (ds : List Deferred) (w0 : World) (M : List Nat) (h0 : Hp) (f : Tab) (h : Hp) (H : List Res) : Prop :=
  ∀ (a : Act) (w : World), a.tmps.size = n → (∀ (i : Nat) (v : Value), f.get i = some v → a.tmps[i]? = some v) → St w0 M h0 h H w → Leaves P fn a.tmps R ds .returning w
theorem ny_finD {fn : Func} {R : Ending → World → Prop} (k : Lv P fn R n D w0 M h0 f h H) : Ny (bodyPostD P fn R) .normal n D w0 M h0 f h H := fun a w ha hs => by
  show Leaves P fn a.tmps R a.defers .returning w
  rw [ha.defers]
  exact k a w ha.size ha.get hs
theorem ny_finDR {fn : Func} {R : Ending → World → Prop} (k : Lv P fn R n D w0 M h0 f h H) : Ny (bodyPostD P fn R) .ret n D w0 M h0 f h H := fun a w ha hs => by
  show Leaves P fn a.tmps R a.defers .returning w
  rw [ha.defers]
  exact k a w ha.size ha.get hs
theorem lv_cons {fn : Func} {R : Ending → World → Prop} {F b : Nat} {vs : List Value} {ds : List Deferred} {ob ob' : Obj} {H1 : List Res} (i : Nat) (hF : callB P F = true) (hp : pickR i H = some (.blk b ob, H1)) (hc : CMD P F vs h b ob ob') (k : Lv P fn R n ds w0 M h0 f h (.blk b ob' :: H1)) :
    Lv P fn R n (⟨.fn (.func F) #[], vs.toArray⟩ :: ds) w0 M h0 f h H := fun a w hsz ha hs => by
  have hs' := hs.swap (pickR_perm hp)
  refine leaves_cons (f := F) (args := vs.toArray) (by simp) (by simp only [invoke, Array.append_empty, call_spec hF]) ?_
  refine (hc .returning w hs.sub (hs'.own _ (List.mem_cons_self) b rfl).1 (hs'.ok _ (List.mem_cons_self))).mono fun e u' w' ⟨hu, ⟨v, he⟩, hf, hg⟩ => ?_
  subst he hu
  exact k a w' hsz ha (hs'.write hf hg)
theorem lv_nil {fn : Func} {R : Ending → World → Prop} {v : Value} (hres : ∀ a w, Holds n [] f a → St w0 M h0 h H w → (results fn a.tmps).run P w = .ok v w) (k : ∀ w, St w0 M h0 h H w → R (.returned v) w) : Lv P fn R n [] w0 M h0 f h H := fun a w hsz ha hs =>
  ⟨v, hres ⟨a.tmps, []⟩ w ⟨hsz, rfl, ha⟩ hs, k w hs⟩
/-! entry -/
theorem enterXM {X : Type} {rv : X → Value} {Φ : X → Hp → Obj → Prop} {F : Nat} {fn : Func} {c : Code} {vs : List Value} {b : Nat} {ob : Obj} (hf : P.funcs[F]? = some fn) (hb : fn.body = some c) (hi : initO 0 vs = some f) (hn : Nat.ble vs.length fn.ntmps = true)
    (k : ∀ w, b < w.heap.size → Cy P c (bodyPost P fn fun e w' => ∃ x h' o', e = .returned (rv x) ∧ Φ x h' o' ∧ Frm w [b] w' ∧ h'.Sub w' ∧ h.Le h' ∧ (∀ k, k < w.heap.size → h' k = h k) ∧ w'.heap[b]? = some o') fn.ntmps [] w [b] h f h [.blk b ob]) : CXM P F vs h b ob rv Φ :=
  fun w hs hg hw => enterM hf hb hi hn (St.start1 hs hw hg) (k w (Array.getElem?_eq_some_iff.1 hw).1)
theorem enterMD' {F : Nat} {fn : Func} {c : Code} {vs : List Value} {R : Ending → World → Prop} (hf : P.funcs[F]? = some fn) (hb : fn.body = some c) (hi : initO 0 vs = some f) (hn : Nat.ble vs.length fn.ntmps = true)
    {w : World} (hs : St w M h0 h H w) (k : Cy P c (bodyPostD P fn R) fn.ntmps [] w M h0 f h H) : Calls P F vs.toArray w R := by
  refine calls_of_wp_defers hf hb (k _ w ⟨?_, rfl, fun i v hiv => ?_⟩ hs)
  · have := Nat.le_of_ble_eq_true hn
    simp
    omega
  · obtain ⟨_, h1⟩ := initO_get hi i v hiv
    have hlt := (List.getElem?_eq_some_iff.1 h1).1
    simp only [Nat.sub_zero] at h1 hlt
    rw [Array.getElem?_append_left (by simpa using hlt)]
    simpa using h1
/-- .. of a function that defers -/
theorem enterXMD {X : Type} {rv : X → Value} {Φ : X → Hp → Obj → Prop} {F : Nat} {fn : Func} {c : Code} {vs : List Value} {b : Nat} {ob : Obj} (hf : P.funcs[F]? = some fn) (hb : fn.body = some c) (hi : initO 0 vs = some f) (hn : Nat.ble vs.length fn.ntmps = true)
    (k : ∀ w, b < w.heap.size → Cy P c (bodyPostD P fn fun e w' => ∃ x h' o', e = .returned (rv x) ∧ Φ x h' o' ∧ Frm w [b] w' ∧ h'.Sub w' ∧ h.Le h' ∧ (∀ k, k < w.heap.size → h' k = h k) ∧ w'.heap[b]? = some o') fn.ntmps [] w [b] h f h [.blk b ob]) : CXM P F vs h b ob rv Φ :=
  fun w hs hg hw => enterMD' hf hb hi hn (St.start1 hs hw hg) (k w (Array.getElem?_eq_some_iff.1 hw).1)
/-- .. of a function that is put off -/
theorem enter1D {F : Nat} {fn : Func} {c : Code} {vs : List Value} {b : Nat} {ob ob' : Obj} (hf : P.funcs[F]? = some fn) (hb : fn.body = some c) (hi : initO 0 vs = some f) (hn : Nat.ble vs.length fn.ntmps = true)
    (k : ∀ w, b < w.heap.size → Cy P c (bodyPost P fn fun e w' => (∃ v, e = .returned v) ∧ Frm w [b] w' ∧ w'.heap[b]? = some ob') fn.ntmps [] w [b] h f h [.blk b ob]) : CMD P F vs h b ob ob' :=
  fun u w hs hg hw => by
    refine callsD_of_wp hf hb (k w (Array.getElem?_eq_some_iff.1 hw).1 _ w ⟨?_, rfl, fun i v hiv => ?_⟩ (St.start1 hs hw hg))
    · have := Nat.le_of_ble_eq_true hn
      simp
      omega
    · obtain ⟨_, h1⟩ := initO_get hi i v hiv
      have hlt := (List.getElem?_eq_some_iff.1 h1).1
      simp only [Nat.sub_zero] at h1 hlt
      rw [Array.getElem?_append_left (by simpa using hlt)]
      simpa using h1
/-- what a contract that turns block b asks at its end -/
theorem St.toTurn {w : World} {w1 : World} {b : Nat} {ob : Obj} {H1 : List Res} (hs : St w [b] h0 h (.blk b ob :: H1) w1) : Frm w [b] w1 ∧ h.Sub w1 ∧ h0.Le h ∧ (∀ k, k < w.heap.size → h k = h0 k) ∧ w1.heap[b]? = some ob := ⟨hs.frm, hs.sub, hs.le, hs.old, hs.ok _ (List.mem_cons_self)⟩
end
end Go.Proofs.Ytdbeiaohibgmeaa.E

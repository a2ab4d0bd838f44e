/- Type assertions to interfaces, equality of interface values, methods without bodies, functions without bodies that make a block. Conditions: none; plain lemmas. -/
import Derived.Test.YtamifocfbcmfkaaDoorEngMake
import Derived.Stop.Asserts
import Derived.Laws.Externs
set_option linter.unusedVariables false
set_option linter.unusedSimpArgs false
namespace Go.Proofs.YtamifocfbcmfkaaDoor.E
open Go.RowKit
theorem ext_run {P : Program} {F : Nat} {fn : Func} {e : Array Value → Sem Value} {vs : Array Value} {v : Value} {w w' : World} (hf : P.funcs[F]? = some fn) (hname : (fn.name == "runtime.NumGoroutine") = false) (hb : fn.body.isNone = true) (hn : Extern.findNext fn = none) (he : Extern.find fn = some e)
    (hr : (e vs).run P w = .ok v w') : (callFunc F vs).run P w = .ok (.value v) w' := by rw [run_callFunc_extern hf hname hb hn he, hr]; rfl
theorem met_run {P : Program} {F t : Nat} {v recv r : Value} {name : String} {vs : Array Value} {w : World} (hm : (method (P.types.size + Made.depth) t v name).run P w = .ok (F, recv) w) (hr : (callFunc F (#[recv] ++ vs)).run P w = .ok (.value r) w) :
    (callMethod (.iface t v) name vs).run P w = .ok (.value r) w := by
  have hp : Sem.run P program w = .ok P w := rfl
  simp only [callMethod, Sem.run_bind, hp, Result.andThen_ok, hm, hr]
section
variable {m : Md} {P : Program} {ops : Array Oper} {Q : Exit → Act → World → Prop} {n : Nat} {D : List Deferred} {w0 : World} {M : List Nat} {h0 : Hp}
variable {f : Tab} {h : Hp} {H : List Res} {rest : List Oper} {o : Oper}
variable {d t s : Nat} {p : String} {af : Array Edge} {g : Option (Nat × Bool)} {F : Nat} {args : Array Operand} {tys : Array TypeId} {vs : List Value}
theorem sy_assert {x : Operand} {vx v : Value} {xT aT : TypeId} {ok : Bool} (hx : f.ev x = some vx) (hr : ∀ w, (Instr.typeAssert vx xT aT ok).run P w = .ok v w) (hw : gok ops f g = some true) (hn : Nat.blt d n = true)
    (k : Sy m P ops Q n D w0 M h0 rest ((d, v) :: f) h H) : Sy m P ops Q n D w0 M h0 (⟨some d, .typeAssert x xT aT ok, t, p, af, g⟩ :: rest) f h H :=
  sy_val hw rfl hn (fun a w ha _ => by simp [execOp, ha.ev hx, hr]) k
theorem sy_eqif {x y : Operand} {tx ty s2 : Nat} {vx vy : Value} {b : Bool} (hx : f.ev x = some (.iface tx vx)) (hy : f.ev y = some (.iface ty vy)) (hr : ∀ w, (binOp .eql s (.iface tx vx) (.iface ty vy)).run P w = .ok (.bool b) w) (hw : gok ops f g = some true) (hn : Nat.blt d n = true)
    (k : Sy m P ops Q n D w0 M h0 rest ((d, .bool b) :: f) h H) : Sy m P ops Q n D w0 M h0 (⟨some d, .binOp .eql s x y s2, t, p, af, g⟩ :: rest) f h H :=
  sy_val hw rfl hn (fun a w ha _ => by
    have hg : (eqGuard .eql s x y (.iface tx vx) (.iface ty vy)).run P w = .ok () w := by simp [eqGuard]
    simp [execOp, ha.ev hx, ha.ev hy, hg, hr]) k
theorem sy_exn {v : Nat → Value} {ob : Obj} (hx : f.evs args.toList = some vs) (hr : ∀ w, (callFunc F vs.toArray).run P w = .ok (.value (v w.heap.size)) (w.alloc ob)) (hw : gok ops f g = some true) (hn : Nat.blt d n = true)
    (k : ∀ b, w0.heap.size ≤ b → b ∉ M → Sy .txt P ops Q n D w0 M h0 rest ((d, v b) :: f) h (.blk b ob :: H)) (hM : ∀ x ∈ M, x < w0.heap.size) : Sy .txt P ops Q n D w0 M h0 (⟨some d, .call ⟨.value (.func F), args, tys⟩, t, p, af, g⟩ :: rest) f h H :=
  sy_op hw fun a w ha hs => by
    have h1 := map_evs ha hx
    have hrun : (execOp a.eval ⟨some d, .call ⟨.value (.func F), args, tys⟩, t, p, af, g⟩).run P w = .ok (.value (v w.heap.size)) (w.alloc ob) := by
      simp only [execOp, resolve, h1, Act.eval, Deferred.ofValue, Sem.run_bind, Sem.run_pure, Result.andThen_ok, invoke, Array.empty_append, Array.append_empty, hr w]
    unfold Oper.wp
    rw [hrun]
    exact k w.heap.size hs.frm.size (fun hx => by have := hM _ hx; have := hs.frm.size; omega) _ _ (ha.put d _ hn) (hs.alloc _)
/-- .. that writes one cell of an owned block, and reads what it likes -/
theorem sy_exw2 {v old new : Value} {b off e : Nat} {cs cs' : List Value} {H1 : List Res} (i : Nat) (hx : f.evs args.toList = some vs) (hp : pickR i H = some (.blk b (.cells cs.toArray e (0, 0)), H1)) (ho : cs[off]? = some old) (hc : cs.set off new = cs')
    (hr : ∀ w, St w0 M h0 h H w → w.cell? ⟨b, off, none⟩ = some old → w.frozen? ⟨b, off, none⟩ = false → (callFunc F vs.toArray).run P w = .ok (.value v) (w.setCell ⟨b, off, none⟩ new)) (hw : gok ops f g = some true) (hn : Nat.blt d n = true)
    (k : Sy .txt P ops Q n D w0 M h0 rest ((d, v) :: f) h (.blk b (.cells cs'.toArray e (0, 0)) :: H1)) : Sy .txt P ops Q n D w0 M h0 (⟨some d, .call ⟨.value (.func F), args, tys⟩, t, p, af, g⟩ :: rest) f h H :=
  sy_op hw fun a w ha hs => by
    have hs' := hs.swap (pickR_perm hp)
    have hb : w.heap[b]? = some (.cells cs.toArray e (0, 0)) := hs'.ok _ (List.mem_cons_self)
    have hcell : w.cell? ⟨b, off, none⟩ = some old := by simp [World.cell?, hb, ho]
    have hfz : w.frozen? ⟨b, off, none⟩ = false := by simp [World.frozen?, hb]
    have h1 := map_evs ha hx
    have hrun : (execOp a.eval ⟨some d, .call ⟨.value (.func F), args, tys⟩, t, p, af, g⟩).run P w = .ok (.value v) (w.setCell ⟨b, off, none⟩ new) := by
      simp only [execOp, resolve, h1, Act.eval, Deferred.ofValue, Sem.run_bind, Sem.run_pure, Result.andThen_ok, invoke, Array.empty_append, Array.append_empty, hr w hs hcell hfz]
    unfold Oper.wp
    rw [hrun]
    refine k _ _ (ha.put d _ hn) (hs'.write (o' := .cells cs'.toArray e (0, 0)) ⟨rfl, rfl, rfl, by simp [World.setCell], fun j hj hm => heap_setCell_other w ⟨b, off, none⟩ j new (by simpa using hm)⟩ ?_)
    rw [heap_setCell_same w b off cs.toArray e new hb, ← hc]
    simp
theorem St.cellQ {b off e : Nat} {cs : List Value} {fr : Nat × Nat} {v : Value} {H1 : List Res} {w : World} (i : Nat) (hp : pickR i H = some (.blk b (.cells cs.toArray e fr), H1)) (hc : cs[off]? = some v) (hs : St w0 M h0 h H w) : w.cell? ⟨b, off, none⟩ = some v := by
  have h1 : w.heap[b]? = some (.cells cs.toArray e fr) := (hs.swap (pickR_perm hp)).ok _ (List.mem_cons_self)
  simp [World.cell?, h1, hc]
theorem sy_invq {recv : Operand} {name : String} {vr v : Value} (hr : f.ev recv = some vr) (hx : f.evs args.toList = some vs) (hmeth : ∀ w, (callMethod vr name vs.toArray).run P w = .ok (.value v) w) (hw : gok ops f g = some true) (hn : Nat.blt d n = true)
    (k : Sy m P ops Q n D w0 M h0 rest ((d, v) :: f) h H) : Sy m P ops Q n D w0 M h0 (⟨some d, .call ⟨.invoke recv name, args, tys⟩, t, p, af, g⟩ :: rest) f h H :=
  sy_val hw rfl hn (fun a w ha _ => by
    have h1 := map_evs ha hx
    have h2 : (#[vr] ++ vs.toArray)[0]? = some vr := by simp
    have h3 : (#[vr] ++ vs.toArray).extract 1 (#[vr] ++ vs.toArray).size = vs.toArray := by
      apply Array.ext'
      simp
    simp only [execOp, resolve, h1, ha.ev hr, Sem.run_bind, Sem.run_pure, Result.andThen_ok, invoke, h2, h3, hmeth]) k
end
end Go.Proofs.YtamifocfbcmfkaaDoor.E

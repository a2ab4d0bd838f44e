/- Slices of records in memory; functions as values; interface values. Conditions: none; plain lemmas. -/
import Derived.Test.YtdbeiaohibgmeaaEngFam
set_option linter.unusedVariables false
set_option linter.unusedSimpArgs false
namespace Go.Proofs.Ytdbeiaohibgmeaa.E
open Go.RowKit
/-- Records lie one behind the other, each by its cells. -/
def RowsAt (h : Hp) (A : Option Addr) (sz : Nat) (cs : List (List Value)) : Prop :=
  ∀ j c, cs[j]? = some c → ∃ g off, A = some ⟨g, off, none⟩ ∧ ∀ jj u, c[jj]? = some u → h.cell ⟨g, off + j * sz + jj, none⟩ = some u
theorem RowsAt.take {h : Hp} {A : Option Addr} {sz : Nat} {cs : List (List Value)} (hp : RowsAt h A sz cs) (k : Nat) : RowsAt h A sz (cs.take k) := fun j x hj => by
  rw [List.getElem?_take] at hj
  split at hj
  · exact hp j x hj
  · cases hj
theorem RowsAt.le {h h' : Hp} {A : Option Addr} {sz : Nat} {cs : List (List Value)} (hp : RowsAt h A sz cs) (hl : h.Le h') : RowsAt h' A sz cs := fun j x hj => by
  obtain ⟨g, off, h1, h2⟩ := hp j x hj
  exact ⟨g, off, h1, fun jj u hu => hl.cell (h2 jj u hu)⟩
theorem RowsAt.get {h : Hp} {g off sz : Nat} {cs : List (List Value)} (hp : RowsAt h (some ⟨g, off, none⟩) sz cs) {j : Nat} {c : List Value} (hj : cs[j]? = some c) :
    ∀ jj v, c[jj]? = some v → h.cell ⟨g, off + ((j : Int)).toNat * sz + jj, none⟩ = some v := fun jj v hv => by
  obtain ⟨g', off', h1, h2⟩ := hp j c hj
  injection h1 with h1
  injection h1 with h1 h1'
  subst h1 h1'
  rw [Int.toNat_natCast]
  exact h2 jj v hv
theorem RowsAt.none {h : Hp} {A : Option Addr} {sz : Nat} {cs : List (List Value)} (hp : RowsAt h A sz cs) (hA : A = none) : cs.length = 0 := by
  cases cs with
  | nil => rfl
  | cons x p =>
    obtain ⟨g, off, h1, _⟩ := hp 0 x rfl
    rw [hA] at h1
    cases h1
theorem flat_len {sz : Nat} : ∀ {cs : List (List Value)}, (∀ c ∈ cs, c.length = sz) → cs.flatten.length = cs.length * sz
  | [], _ => by simp
  | c :: cs, h => by
    rw [List.flatten_cons, List.length_append, h c (List.mem_cons_self), flat_len (fun c' hc' => h c' (List.mem_cons_of_mem _ hc')), List.length_cons, Nat.succ_mul]
    omega
theorem flat_get {sz : Nat} : ∀ {cs : List (List Value)}, (∀ c ∈ cs, c.length = sz) → ∀ {j : Nat} {c : List Value}, cs[j]? = some c → ∀ jj, jj < sz → cs.flatten[j * sz + jj]? = c[jj]?
  | [], _, j, c, h, _, _ => by simp at h
  | c0 :: cs, hs, 0, c, h, jj, hjj => by
    simp only [List.getElem?_cons_zero, Option.some.injEq] at h
    subst h
    rw [List.flatten_cons, Nat.zero_mul, Nat.zero_add, List.getElem?_append_left (by rw [hs _ (List.mem_cons_self)]; exact hjj)]
  | c0 :: cs, hs, j + 1, c, h, jj, hjj => by
    simp only [List.getElem?_cons_succ] at h
    have hl := hs c0 (List.mem_cons_self)
    rw [List.flatten_cons, List.getElem?_append_right (by rw [hl, Nat.succ_mul]; omega), hl, show (j + 1) * sz + jj - sz = j * sz + jj by rw [Nat.succ_mul]; omega]
    exact flat_get (fun c' hc' => hs c' (List.mem_cons_of_mem _ hc')) h jj hjj
theorem RowsAt.cells {h : Hp} {A : Option Addr} {sz : Nat} {cs : List (List Value)} (hsz : 0 < sz) (hs : ∀ c ∈ cs, c.length = sz) (hp : RowsAt h A sz cs) : ∀ j u, cs.flatten[j]? = some u → ∃ ad : Addr, A = some ad ∧ h.cell (ad.add j) = some u := fun j u hj => by
  have hlt : j < cs.length * sz := by
    have := (List.getElem?_eq_some_iff.1 hj).1
    rwa [flat_len hs] at this
  have hd : j / sz < cs.length := Nat.div_lt_of_lt_mul (by rw [Nat.mul_comm]; exact hlt)
  have hm : j % sz < sz := Nat.mod_lt _ hsz
  have e : j / sz * sz + j % sz = j := by rw [Nat.mul_comm]; exact Nat.div_add_mod j sz
  have hc : cs[j / sz]? = some (cs[j / sz]) := List.getElem?_eq_getElem hd
  have h1 := flat_get hs hc (j % sz) hm
  rw [e, hj] at h1
  obtain ⟨g, off, h3, h4⟩ := hp _ _ hc
  refine ⟨_, h3, ?_⟩
  rw [Addr.add_at]
  have := h4 (j % sz) u h1.symm
  rwa [Nat.add_assoc, e] at this
theorem rows_row {h : Hp} {A : Option Addr} {sz : Nat} {cs : List (List Value)} (hsz : 0 < sz) (hs : ∀ c ∈ cs, c.length = sz) (hc : ∀ j u, cs.flatten[j]? = some u → ∃ g, A = some ⟨g, 0, none⟩ ∧ h.cell ⟨g, j, none⟩ = some u) : RowsAt h A sz cs := fun j c hj => by
  have hl := hs c (List.mem_of_getElem? hj)
  have key : ∀ jj u, c[jj]? = some u → ∃ g, A = some ⟨g, 0, none⟩ ∧ h.cell ⟨g, j * sz + jj, none⟩ = some u := fun jj u hu => by
    have hjj : jj < sz := by have := (List.getElem?_eq_some_iff.1 hu).1; omega
    exact hc _ _ ((flat_get hs hj jj hjj).trans hu)
  have h0 : c[0]? = some (c[0]'(by omega)) := List.getElem?_eq_getElem _
  obtain ⟨g, h1, _⟩ := key 0 _ h0
  refine ⟨g, 0, h1, fun jj u hu => ?_⟩
  obtain ⟨g', h2, h3⟩ := key jj u hu
  rw [h1] at h2
  injection h2 with h2
  injection h2 with h2
  subst h2
  simpa using h3
theorem rows_blk {h : Hp} {g e sz : Nat} {fr : Nat × Nat} {cs : List (List Value)} (hsz : 0 < sz) (hs : ∀ c ∈ cs, c.length = sz) (hg : h g = some (.cells cs.flatten.toArray e fr)) : RowsAt h (some ⟨g, 0, none⟩) sz cs :=
  rows_row hsz hs fun j u hj => ⟨g, rfl, by simp [Hp.cell, hg, hj]⟩
section
variable {m : Md} {P : Program} {ops : Array Oper} {Q : Exit → Act → World → Prop} {n : Nat} {D : List Deferred} {w0 : World} {M : List Nat} {h0 : Hp}
variable {f : Tab} {h : Hp} {H : List Res} {rest : List Oper} {o : Oper}
section ops
variable {d t s : Nat} {p : String} {af : Array Edge} {g : Option (Nat × Bool)}
theorem map_evs {D : List Deferred} {f : Tab} {a : Act} (ha : Holds n D f a) {xs : Array Operand} {vs : List Value} (hx : f.evs xs.toList = some vs) : xs.map a.eval = vs.toArray := by
  rw [← ha.evs hx]
  apply Array.ext'
  simp
/-- a function with what it has caught -/
theorem sy_makeFunc {F : Nat} {xs : Array Operand} {vs : List Value} (hx : f.evs xs.toList = some vs) (hw : gok ops f g = some true) (hn : Nat.blt d n = true)
    (k : Sy m P ops Q n D w0 M h0 rest ((d, .func (.func F) #[] vs.toArray) :: f) h H) : Sy m P ops Q n D w0 M h0 (⟨some d, .makeFunc (.func F) #[] xs, t, p, af, g⟩ :: rest) f h H :=
  sy_val hw rfl hn (fun a w ha _ => by
    have h1 := map_evs ha hx
    simp [execOp, Instr.makeFunc, h1]) k
theorem run_callV {a : Act} {w : World} {dst : Option Nat} {fv : Operand} {F : Nat} {args : Array Operand} {tys : Array TypeId} {vs caps : List Value} (hF : callB P F = true) (ha : Holds n D f a) (hf : f.ev fv = some (.func (.func F) #[] caps.toArray)) (hx : f.evs args.toList = some vs) :
    (execOp a.eval ⟨dst, .call ⟨.value fv, args, tys⟩, t, p, af, g⟩).run P w = .ok (.enter F (vs ++ caps).toArray) w := by
  have h1 := map_evs ha hx
  have h2 : (vs ++ caps).toArray = vs.toArray ++ caps.toArray := by simp
  rw [h2]
  simp only [execOp, resolve, h1, ha.ev hf, Deferred.ofValue, Sem.run_bind, Sem.run_pure, Result.andThen_ok, invoke, Array.empty_append, call_spec hF]
/-- a call of a function that is a value -/
theorem sy_callv {fv : Operand} {F : Nat} {args : Array Operand} {tys : Array TypeId} {vs caps : List Value} {v : Value} (hm : m.plain = true) (hF : callB P F = true) (hf : f.ev fv = some (.func (.func F) #[] caps.toArray)) (hx : f.evs args.toList = some vs) (hc : C0 P F (vs ++ caps) h v) (hw : gok ops f g = some true) (hn : Nat.blt d n = true)
    (k : Sy m P ops Q n D w0 M h0 rest ((d, v) :: f) h H) : Sy m P ops Q n D w0 M h0 (⟨some d, .call ⟨.value fv, args, tys⟩, t, p, af, g⟩ :: rest) f h H :=
  sy_enter hm hw rfl hn (fun a w ha => run_callV hF ha hf hx) (fun w hs => hc w hs.sub) k
/-- a value in an interface -/
theorem sy_iface {x : Operand} {v : Value} {d0 : TypeDesc} (hs : P.underlying s = some d0) (hni : (match d0 with | .interface _ => false | _ => true) = true) (hx : f.ev x = some v) (hw : gok ops f g = some true) (hn : Nat.blt d n = true)
    (k : Sy m P ops Q n D w0 M h0 rest ((d, .iface s v) :: f) h H) : Sy m P ops Q n D w0 M h0 (⟨some d, .makeInterface s x, t, p, af, g⟩ :: rest) f h H :=
  sy_val hw rfl hn (fun a w ha _ => by
    cases d0 <;> first | (simp at hni; done) | simp [execOp, Instr.makeInterface, run_underlying hs, ha.ev hx]) k
end ops
/-- a plain result, and a named one that lies in a block of its own -/
theorem resc2 {fn : Func} {t u ty e l : Nat} {fr : Nat × Nat} {b : Nat} {cs vs : List Value} {v2 : Value} {H1 : List Res} (i : Nat) (hr : fn.results = #[.tmp u, .cell t ty]) (hty : aggB P ty l = true) (hv : f.get t = some (.pointer (some ⟨b, 0, none⟩))) (hu : f.get u = some v2)
    (hp : pickR i H = some (.blk b (.cells cs.toArray e fr), H1)) (hc : sliceO 0 l cs = some vs) :
    ∀ a w, Holds n [] f a → St w0 M h0 h H w → (results fn a.tmps).run P w = .ok (.tuple #[v2, .agg vs.toArray]) w := fun a w ha hs => by
  have h1 := ha.get t _ hv
  have h2 := ha.get u v2 hu
  have hb : w.heap[b]? = some (.cells cs.toArray e fr) := (hs.swap (pickR_perm hp)).ok _ (List.mem_cons_self)
  obtain ⟨h5, h6⟩ := agg_spec hty w
  obtain ⟨h7, h8⟩ := sliceO_spec hc
  subst h7
  have h3 := run_loadCells_list (P := P) w ⟨b, 0, none⟩ vs (fun j u hj => by
    rw [Addr.add_at]
    have := h8 j u hj
    simp only [Nat.zero_add] at this ⊢
    simp [World.cell?, hb, this])
  simp [results, hr, h1, h2, asAddr, loadVar, h5, h6, h3]
end
end Go.Proofs.Ytdbeiaohibgmeaa.E

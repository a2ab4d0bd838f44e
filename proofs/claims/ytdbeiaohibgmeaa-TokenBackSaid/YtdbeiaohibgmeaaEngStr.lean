/- Texts and bytes; interface values against nil. Conditions: none; plain lemmas. -/
import Derived.Test.YtdbeiaohibgmeaaEngAny
import Derived.Laws.IdiomStrings
import Derived.Laws.BytesString
set_option linter.unusedVariables false
set_option linter.unusedSimpArgs false
namespace Go.Proofs.Ytdbeiaohibgmeaa.E
open Go.RowKit
def byteC (u : UInt8) : List Value := [.int .u8 (u.toNat : Int)]
theorem byteC_len (l : List UInt8) : ∀ c ∈ l.map byteC, c.length = 1 := fun c hc => by
  obtain ⟨u, _, rfl⟩ := List.mem_map.1 hc
  rfl
theorem byteC_flat (l : List UInt8) : (l.map byteC).flatten = l.map fun u => Value.int .u8 (u.toNat : Int) := by
  induction l with
  | nil => rfl
  | cons u l ih => simp [byteC, ih]
theorem byteC_ones (l : List UInt8) : ∀ u ∈ (l.map byteC).flatten, u.oneCell' = true := fun u hu => by
  rw [byteC_flat] at hu
  obtain ⟨x, _, rfl⟩ := List.mem_map.1 hu
  rfl
def nilB : Value → Option Bool
  | .nilIface => some true
  | .iface _ _ => some false
  | _ => none
section
variable {m : Md} {P : Program} {ops : Array Oper} {Q : Exit → Act → World → Prop} {n : Nat} {D : List Deferred} {w0 : World} {M : List Nat} {h0 : Hp}
variable {f : Tab} {h : Hp} {H : List Res} {rest : List Oper} {o : Oper}
section ops
variable {d t s : Nat} {p : String} {af : Array Edge} {g : Option (Nat × Bool)}
theorem sy_strbytes {x : Operand} {bs : ByteArray} {e s2 : Nat} (hs : P.underlying s = some .string) (ht : P.underlying s2 = some (.slice e)) (he : P.underlying e = some (.int .u8)) (hx : f.ev x = some (.string bs)) (hw : gok ops f g = some true) (hn : Nat.blt d n = true)
    (k : ∀ b c h', h.Le h' → RowsAt h' (some ⟨b, 0, none⟩) 1 (bs.data.toList.map byteC) → Sy .txt P ops Q n D w0 M h0 rest ((d, .slice (some ⟨b, 0, none⟩) bs.size c) :: f) h' H) (hM : ∀ x ∈ M, x < w0.heap.size) :
    Sy .txt P ops Q n D w0 M h0 (⟨some d, .convert s s2 x, t, p, af, g⟩ :: rest) f h H :=
  sy_op hw fun a w ha hs' => by
    have hrun := run_bytes_of_string w s s2 e bs hs ht he
    have hrun' : (execOp a.eval ⟨some d, .convert s s2 x, t, p, af, g⟩).run P w = .ok (.value (.slice (some ⟨w.heap.size, 0, none⟩) bs.size (grownCap w bs.size 0 e)))
        (w.drew.alloc (.cells (bytesRow bs (grownCap w bs.size 0 e)) e ((bytesRow bs (grownCap w bs.size 0 e)).size, (bytesRow bs (grownCap w bs.size 0 e)).size + 1))) := by
      simp only [execOp, ha.ev hx, Sem.run_bind, hrun, Result.andThen_ok, Sem.run_pure]
    unfold Oper.wp
    rw [hrun']
    have hd : St w0 M h0 h H w.drew := hs'.grow ⟨rfl, rfl, rfl, Nat.le_refl _, fun _ _ _ => rfl⟩
    have h1 := hd.alloc (.cells (bytesRow bs (grownCap w bs.size 0 e)) e ((bytesRow bs (grownCap w bs.size 0 e)).size, (bytesRow bs (grownCap w bs.size 0 e)).size + 1))
    have hsz : w.drew.heap.size = w.heap.size := rfl
    rw [hsz] at h1
    have hMb : w.heap.size ∉ M := fun hx => by have := hM _ hx; have := hs'.frm.size; omega
    obtain ⟨h2, h3⟩ := h1.freeze hMb
    refine k w.heap.size _ _ h3 ?_ _ _ (ha.put d _ hn) h2
    intro j c hj
    rw [List.getElem?_map, Option.map_eq_some_iff] at hj
    obtain ⟨u, hu, rfl⟩ := hj
    refine ⟨w.heap.size, 0, rfl, fun jj v hv => ?_⟩
    have hjj : jj = 0 := by
      have := (List.getElem?_eq_some_iff.1 hv).1
      simp only [byteC, List.length_cons, List.length_nil] at this
      omega
    subst hjj
    have hjl : j < bs.data.size := by
      have := (List.getElem?_eq_some_iff.1 hu).1
      simpa using this
    have hue : bs.data[j] = u := by
      have := (List.getElem?_eq_some_iff.1 hu).2
      simpa using this
    simp only [byteC, List.getElem?_cons_zero, Option.some.injEq] at hv
    subst hv
    have h4 := bytesRow_at bs (grownCap w bs.size 0 e) j hjl
    simp only [Hp.cell, if_true, Nat.zero_add, Nat.mul_one, Nat.add_zero, Option.isSome_none, Bool.false_eq_true, if_false, h4, hue]
/-- bytes that the ghost tells of, as a text -/
theorem sy_bytesh {x : Operand} {A : Option Addr} {l c e s2 : Nat} {bs : List UInt8} (hs : P.underlying s = some (.slice e)) (he : P.underlying e = some (.int .u8)) (ht : P.underlying s2 = some .string) (hx : f.ev x = some (.slice A l c)) (hp : RowsAt h A 1 (bs.map byteC)) (hl : bs.length = l)
    (hw : gok ops f g = some true) (hn : Nat.blt d n = true) (k : Sy m P ops Q n D w0 M h0 rest ((d, .string ⟨bs.toArray⟩) :: f) h H) : Sy m P ops Q n D w0 M h0 (⟨some d, .convert s s2 x, t, p, af, g⟩ :: rest) f h H :=
  sy_val hw rfl hn (fun a w ha hs' => by
    have hrun : (convert s s2 (.slice A l c)).run P w = .ok (.string ⟨bs.toArray⟩) w := by
      cases A with
      | none =>
        have h0 := hp.none rfl
        rw [List.length_map] at h0
        have h1 : bs = [] := List.eq_nil_of_length_eq_zero h0
        subst h1
        simp only [List.length_nil] at hl
        subst hl
        rw [run_convert_bytes_string w s s2 e none 0 c hs he ht]
        simp [Conv.bytesToString]
        rfl
      | some ad =>
        subst hl
        refine run_convert_bytes_back w s s2 e ad c bs hs he ht fun j hj => ?_
        obtain ⟨ad', h3, h4⟩ := hp.cells (by decide) (byteC_len bs) j (.int .u8 (bs[j].toNat : Int)) (by rw [byteC_flat, List.getElem?_map, List.getElem?_eq_getElem hj]; rfl)
        injection h3 with h3
        subst h3
        exact hs'.sub.cell h4
    simp only [execOp, ha.ev hx, Sem.run_bind, hrun, Result.andThen_ok, Sem.run_pure]) k
/-- one byte in a block of one's own, as a text -/
theorem sy_byte1 {x : Operand} {b c e e2 s2 : Nat} {z : Int} {u : UInt8} {fr : Nat × Nat} {H1 : List Res} (i : Nat) (hs : P.underlying s = some (.slice e)) (he : P.underlying e = some (.int .u8)) (ht : P.underlying s2 = some .string) (hx : f.ev x = some (.slice (some ⟨b, 0, none⟩) 1 c)) (hp : pickR i H = some (.blk b (.cells [.int .u8 z].toArray e2 fr), H1)) (hz : z = (u.toNat : Int))
    (hw : gok ops f g = some true) (hn : Nat.blt d n = true) (k : Sy m P ops Q n D w0 M h0 rest ((d, .string ⟨#[u]⟩) :: f) h H) : Sy m P ops Q n D w0 M h0 (⟨some d, .convert s s2 x, t, p, af, g⟩ :: rest) f h H :=
  sy_val hw rfl hn (fun a w ha hs' => by
    have hb : w.heap[b]? = some (.cells [.int .u8 z].toArray e2 fr) := (hs'.swap (pickR_perm hp)).ok _ (List.mem_cons_self)
    have hrun : (convert s s2 (.slice (some ⟨b, 0, none⟩) 1 c)).run P w = .ok (.string ⟨#[u]⟩) w := by
      refine run_convert_bytes_back w s s2 e ⟨b, 0, none⟩ c [u] hs he ht fun j hj => ?_
      have hj0 : j = 0 := by simp at hj; omega
      subst hj0
      rw [Addr.add_at]
      simp [World.cell?, hb, hz]
    simp only [execOp, ha.ev hx, Sem.run_bind, hrun, Result.andThen_ok, Sem.run_pure]) k
/-- an interface value against nil -/
theorem sy_eqn {op : BinOp} {x : Operand} {v : Value} {ms : Array (String × TypeId)} {e b : Bool} {s2 : Nat} (hs : P.underlying s = some (.interface ms)) (hx : f.ev x = some v) (he : nilB v = some e)
    (hb : match op with | .eql => b = e | .neq => b = !e | _ => False) (hw : gok ops f g = some true) (hn : Nat.blt d n = true)
    (k : Sy m P ops Q n D w0 M h0 rest ((d, .bool b) :: f) h H) : Sy m P ops Q n D w0 M h0 (⟨some d, .binOp op s x (.const .nilIface) s2, t, p, af, g⟩ :: rest) f h H := by
  refine sy_val hw rfl hn (fun a w ha _ => ?_) k
  have heq : ∀ dd, (Op.equalIn (dd + 1) s v .nilIface).run P w = .ok e w := fun dd => by
    cases v <;> simp only [nilB, Option.some.injEq] at he <;> first | (cases he; done) | (subst he; simp [Op.equalIn, run_underlying hs])
  have heq2 : (Op.equal s v .nilIface).run P w = .ok e w := heq 9999
  have hg : ∀ op, (eqGuard op s x (.const .nilIface) v .nilIface).run P w = .ok () w := fun op => by
    cases v <;> simp only [nilB] at he <;> first | (cases he; done) | (cases op <;> simp [eqGuard])
  have hc : a.eval (.const .nilIface) = .nilIface := rfl
  cases op <;> simp only at hb <;> first | exact hb.elim | skip
  · subst hb
    cases v <;> simp only [nilB] at he <;> first | (cases he; done) | simp [execOp, ha.ev hx, hc, hg, binOp, heq2]
  · subst hb
    cases v <;> simp only [nilB] at he <;> first | (cases he; done) | simp [execOp, ha.ev hx, hc, hg, binOp, heq2]
end ops
end
end Go.Proofs.Ytdbeiaohibgmeaa.E

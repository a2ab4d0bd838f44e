/- Slices made, cut, copied and compared; texts cut; loops walked round by round; new blocks handed out by calls. Conditions: none; plain lemmas. -/
import Derived.Test.YtdbeiaohibgmeaaEngSync
import Derived.LoopN
import Derived.Laws.MakeOwn
import Derived.Lib.SliceRun
set_option linter.unusedVariables false
set_option linter.unusedSimpArgs false
namespace Go.Proofs.Ytdbeiaohibgmeaa.E
open Go.RowKit
/-- it makes data, and hands out a new block that may still be written -/
def CXN {X : Type} (P : Program) (F : Nat) (vs : List Value) (h : Hp) (rv : X → Nat → Value) (Φ : X → Hp → Obj → Prop) : Prop :=
  ∀ w, h.Sub w → Calls P F vs.toArray w fun e w' => ∃ x b h' o', e = .returned (rv x b) ∧ Φ x h' o' ∧ Grow h w h' w' ∧ w.heap.size ≤ b ∧ w'.heap[b]? = some o' ∧ h' b = none
section
variable {m : Md} {P : Program} {ops : Array Oper} {Q : Exit → Act → World → Prop} {n : Nat} {D : List Deferred} {w0 : World} {M : List Nat} {h0 : Hp}
variable {f : Tab} {h : Hp} {H : List Res} {rest : List Oper} {o : Oper}
theorem St.addNew {w w' : World} {h' : Hp} {b : Nat} {o' : Obj} (s : St w0 M h0 h H w) (g : Grow h w h' w') (hb : w.heap.size ≤ b) (hob : w'.heap[b]? = some o') (hn : h' b = none) : St w0 M h0 h' (.blk b o' :: H) w' := by
  have s' := s.grow' g
  refine { s' with ok := ?_, own := ?_, dis := ?_ }
  · intro r hr
    rcases List.mem_cons.1 hr with rfl | hr
    · exact hob
    · exact s'.ok r hr
  · intro r hr k hk
    rcases List.mem_cons.1 hr with rfl | hr
    · simp only [Res.key, Option.some.injEq] at hk
      subst hk
      exact ⟨hn, .inl (Nat.le_trans s.frm.size hb)⟩
    · exact s'.own r hr k hk
  · refine List.Pairwise.cons (fun r hr k hk hk' => ?_) s'.dis
    simp only [Res.key, Option.some.injEq] at hk
    subst hk
    have := Res.Ok.lt (s.ok r hr) hk'
    omega
section ops
variable {d t s : Nat} {p : String} {af : Array Edge} {g : Option (Nat × Bool)}
theorem sy_callxn {X : Type} {F : Nat} {args : Array Operand} {tys : Array TypeId} {vs : List Value} {rv : X → Nat → Value} {Φ : X → Hp → Obj → Prop} (hF : callB P F = true) (hx : f.evs args.toList = some vs) (hc : CXN P F vs h rv Φ) (hw : gok ops f g = some true) (hn : Nat.blt d n = true)
    (k : ∀ x b h' o', Φ x h' o' → h.Le h' → w0.heap.size ≤ b → b ∉ M → Sy .txt P ops Q n D w0 M h0 rest ((d, rv x b) :: f) h' (.blk b o' :: H)) (hM : ∀ x ∈ M, x < w0.heap.size) : Sy .txt P ops Q n D w0 M h0 (⟨some d, .call ⟨.value (.func F), args, tys⟩, t, p, af, g⟩ :: rest) f h H :=
  sy_op hw fun a w ha hs => by
    unfold Oper.wp
    rw [run_callF hF ha hx]
    refine (hc w hs.sub).mono fun e w' ⟨x, b, h', o', he, hΦ, hg, hb, hob, hnb⟩ => ?_
    subst he
    have hle := hs.frm.size
    exact k x b h' o' hΦ hg.le (by omega) (fun hx => by have := hM _ hx; omega) _ w' (ha.put d _ hn) (hs.addNew hg hb hob hnb)
/-- a pointer as an unsafe one -/
theorem sy_unsafe {x : Operand} {b off s2 tt : Nat} {v : Value} (hs : P.underlying s = some (.pointer tt)) (hd : P.underlying s2 = some .unsafePointer) (hsz : (P.info? tt).map (fun i => decide (i.size = 0)) = some false) (hx : f.ev x = some (.pointer (some ⟨b, off, none⟩))) (hc : ∀ w, St w0 M h0 h H w → w.cell? ⟨b, off, none⟩ = some v)
    (hw : gok ops f g = some true) (hn : Nat.blt d n = true) (k : Sy m P ops Q n D w0 M h0 rest ((d, .pointer (some ⟨b, off, none⟩)) :: f) h H) : Sy m P ops Q n D w0 M h0 (⟨some d, .convert s s2 x, t, p, af, g⟩ :: rest) f h H :=
  sy_val hw rfl hn (fun a w ha hs' => by
    have h1 := run_convert_to_unsafe hs hd hsz (hc w hs')
    simp only [execOp, ha.ev hx, Sem.run_bind, h1, Result.andThen_ok, Sem.run_pure]) k
/-! slices made -/
theorem sy_make0 {x y : Operand} {k1 k2 : IntKind} {e size bytes c : Nat} (hr : rowB P s e size bytes = true) (hx : f.ev x = some (.int k1 0)) (hy : f.ev y = some (.int k2 (c : Int))) (hby : bytes * c ≤ 281474976710656) (hm : c ≤ maxLen) (hw : gok ops f g = some true) (hn : Nat.blt d n = true)
    (k : ∀ b, w0.heap.size ≤ b → b ∉ M → Sy .txt P ops Q n D w0 M h0 rest ((d, .slice (some ⟨b, 0, none⟩) 0 c) :: f) h (.row (.slice (some ⟨b, 0, none⟩) 0 c) e size 0 [] :: H)) (hM : ∀ x ∈ M, x < w0.heap.size) :
    Sy .txt P ops Q n D w0 M h0 (⟨some d, .makeSlice s x y, t, p, af, g⟩ :: rest) f h H :=
  sy_op hw fun a w ha hs => by
    obtain ⟨h2, inf, z, h3, h4, h5, h6, h7⟩ := row_spec hr
    have hzc : z.cells.size = inf.size := by rw [h7, h5]
    have hle := hs.frm.size
    have hMb : w.heap.size ∉ M := fun hx => by have := hM _ hx; omega
    have h8 := run_make (P := P) w s e inf z h2 h3 h4 k1 k2 0 c (by omega) (by omega) (by
      have : ((inf.bytes * c : Nat) : Int) ≤ 281474976710656 := by rw [h6]; omega
      rwa [Int.natCast_mul] at this) (by simp only [maxLen] at hm; omega)
    simp only [Int.toNat_zero, Int.toNat_natCast] at h8
    have hrun : (execOp a.eval ⟨some d, .makeSlice s x y, t, p, af, g⟩).run P w = .ok (.value (.slice (some ⟨w.heap.size, 0, none⟩) 0 c)) (w.alloc (.cells (madeCells z.cells (c * inf.size)) e)) := by
      simp only [execOp, ha.ev hx, ha.ev hy, Sem.run_bind, h8, Result.andThen_ok, Sem.run_pure]
    unfold Oper.wp
    rw [hrun]
    have h9 := hs.alloc (.cells (madeCells z.cells (c * inf.size)) e)
    have hlen : (madeCells z.cells (c * inf.size)).size = c * size := by
      rw [size_madeCells, h5]
    refine k w.heap.size hle hMb _ _ (ha.put d _ hn) ?_
    exact { h9 with
      ok := fun r hr => by
        rcases List.mem_cons.1 hr with rfl | hr
        · exact ⟨by simp, .inr ⟨w.heap.size, c, madeCells z.cells (c * inf.size), rfl, Nat.zero_le _, h9.ok _ (List.mem_cons_self), Nat.zero_le _, hm, hlen, by simp⟩⟩
        · exact h9.ok r (List.mem_cons_of_mem _ hr)
      own := fun r hr k hk => by
        rcases List.mem_cons.1 hr with rfl | hr
        · exact h9.own (.blk w.heap.size (.cells (madeCells z.cells (c * inf.size)) e)) (List.mem_cons_self) k hk
        · exact h9.own r (List.mem_cons_of_mem _ hr) k hk
      dis := List.Pairwise.cons (fun r hr k hk => (List.pairwise_cons.1 h9.dis).1 r hr k hk) (List.pairwise_cons.1 h9.dis).2 }
/-- .. of bytes, whole -/
theorem sy_makeB {x y : Operand} {k1 k2 : IntKind} {e c : Nat} (hr : rowB P s e 1 1 = true) (hz : zerL P e = some [.int .u8 0]) (hx : f.ev x = some (.int k1 (c : Int))) (hy : f.ev y = some (.int k2 (c : Int))) (hby : c ≤ 281474976710656) (hw : gok ops f g = some true) (hn : Nat.blt d n = true)
    (k : ∀ b, w0.heap.size ≤ b → b ∉ M → Sy .txt P ops Q n D w0 M h0 rest ((d, .slice (some ⟨b, 0, none⟩) c c) :: f) h (.blk b (.cells (List.replicate c (Value.int .u8 0)).toArray e (0, 0)) :: H)) (hM : ∀ x ∈ M, x < w0.heap.size) :
    Sy .txt P ops Q n D w0 M h0 (⟨some d, .makeSlice s x y, t, p, af, g⟩ :: rest) f h H :=
  sy_op hw fun a w ha hs => by
    obtain ⟨h2, inf, z, h3, h4, h5, h6, h7⟩ := row_spec hr
    have hle := hs.frm.size
    have hMb : w.heap.size ∉ M := fun hx => by have := hM _ hx; omega
    have hzc : z.cells = #[.int .u8 0] := by
      unfold zerL at hz
      rw [h3] at hz
      simp only [h4] at hz
      exact cellsO_spec hz
    have h8 := run_make (P := P) w s e inf z h2 h3 h4 k1 k2 c c (by omega) (by omega) (by rw [h6]; omega) (by omega)
    simp only [Int.toNat_natCast] at h8
    have hmc : madeCells z.cells (c * inf.size) = (List.replicate c (Value.int .u8 0)).toArray := by
      apply Array.ext'
      rw [hzc, h5, Nat.mul_one, toList_madeCells_one]
    rw [hmc] at h8
    have hrun : (execOp a.eval ⟨some d, .makeSlice s x y, t, p, af, g⟩).run P w = .ok (.value (.slice (some ⟨w.heap.size, 0, none⟩) c c)) (w.alloc (.cells (List.replicate c (Value.int .u8 0)).toArray e)) := by
      simp only [execOp, ha.ev hx, ha.ev hy, Sem.run_bind, h8, Result.andThen_ok, Sem.run_pure]
    unfold Oper.wp
    rw [hrun]
    exact k w.heap.size hle hMb _ _ (ha.put d _ hn) (hs.alloc _)
/-- the header of a row -/
theorem sy_rowform {v : Value} {e sz l : Nat} {xs : List Value} {H1 : List Res} (i : Nat) (hp : pickR i H = some (.row v e sz l xs, H1)) (k : ∀ A c, v = .slice A l c → Sy .txt P ops Q n D w0 M h0 rest f h H) : Sy .txt P ops Q n D w0 M h0 rest f h H := fun a w ha hs => by
  have hr : w.ownsRow 0 e sz v l xs := (hs.swap (pickR_perm hp)).ok _ (List.mem_cons_self)
  rcases hr.2 with ⟨rfl, rfl⟩ | ⟨g, cap, cur, rfl, _⟩
  · exact k none 0 rfl a w ha hs
  · exact k _ cap rfl a w ha hs
/-- a slice cut at its beginning -/
theorem sy_cutFrom {x y : Operand} {b off l c e k0 sz : Nat} {ik : IntKind} (hs : elsB P s e sz = true) (hx : f.ev x = some (.slice (some ⟨b, off, none⟩) l c)) (hy : f.ev y = some (.int ik (k0 : Int))) (hk : k0 ≤ l) (hkc : k0 < c) (hw : gok ops f g = some true) (hn : Nat.blt d n = true)
    (k : Sy m P ops Q n D w0 M h0 rest ((d, .slice (some ⟨b, off + k0 * sz, none⟩) (l - k0) (c - k0)) :: f) h H) : Sy m P ops Q n D w0 M h0 (⟨some d, .slice s x (some y) none none, t, p, af, g⟩ :: rest) f h H := by
  obtain ⟨h2, inf, h3, h4⟩ := els_spec hs
  refine sy_val hw rfl hn (fun a w ha _ => ?_) k
  have hne : ¬ c = k0 := by omega
  simp [execOp, ha.ev hx, ha.ev hy, Instr.sliceAt, Instr.slice, Instr.sliceBounds, Instr.sliceBound, asIntOf, run_underlying h2, sizeOf, typeInfo, h3, h4, hk, hne, Addr.add_at]
/-- a copy of what the ghost tells, whole, into an owned block -/
theorem sy_copy {x y : Operand} {b off dl dc e sl sc tt : Nat} {A : Option Addr} {s1 s2 : Nat} {cs news cs' : List Value} {H1 : List Res} (i : Nat) (hr : rowB P s1 e 1 1 = true) (hx : f.ev x = some (.slice (some ⟨b, off, none⟩) dl dc)) (hy : f.ev y = some (.slice A sl sc)) (hp : pickR i H = some (.blk b (.cells cs.toArray tt (0, 0)), H1))
    (hsl : news.length = sl) (hpos : 0 < sl) (hd : sl ≤ dl) (hnews : ∀ j u, news[j]? = some u → ∃ ad : Addr, A = some ad ∧ h.cell (ad.add j) = some u) (h1 : ∀ u ∈ news, u.oneCell' = true) (hfit : off + sl ≤ cs.length) (hc : cs.take off ++ news ++ cs.drop (off + sl) = cs') (hw : gok ops f g = some true) (hn : Nat.blt d n = true)
    (k : Sy .txt P ops Q n D w0 M h0 rest ((d, .int .i64 (sl : Int)) :: f) h (.blk b (.cells cs'.toArray tt (0, 0)) :: H1)) : Sy .txt P ops Q n D w0 M h0 (⟨some d, .call ⟨.builtin .copy, #[x, y], #[s1, s2]⟩, t, p, af, g⟩ :: rest) f h H :=
  sy_op hw fun a w ha hs => by
    subst hsl
    obtain ⟨h2, inf, z, h3, h4, h5, h6, h7⟩ := row_spec hr
    have hs' := hs.swap (pickR_perm hp)
    have hb : w.heap[b]? = some (.cells cs.toArray tt (0, 0)) := hs'.ok _ (List.mem_cons_self)
    obtain ⟨ad, rfl, _⟩ := hnews 0 _ (List.getElem?_eq_getElem hpos)
    have hload := run_loadCells_list (P := P) w ad news (fun j u hj => by
      obtain ⟨ad', he, hcell⟩ := hnews j u hj
      injection he with he
      subst he
      exact hs.sub.cell hcell)
    have hst := run_storeCells_at P b off tt news 0 cs.toArray w hb (by simpa using hfit) h1
    simp only [Nat.add_zero] at hst
    have hmin : Nat.min news.length dl = news.length := Nat.min_eq_left hd
    have hrun : (execOp a.eval ⟨some d, .call ⟨.builtin .copy, #[x, y], #[s1, s2]⟩, t, p, af, g⟩).run P w = .ok (.value (.int .i64 (news.length : Int))) (w.setRow b cs'.toArray) := by
      simp [execOp, resolve, invoke, builtin, ha.ev hx, ha.ev hy, Builtin.copy_, run_underlying h2, Builtin.lenOf, Builtin.firstCells, sizeOf, typeInfo, h3, h5, hmin, hload, hst, hc, goInt]
    unfold Oper.wp
    rw [hrun]
    exact k _ _ (ha.put d _ hn) (hs'.write (o' := .cells cs'.toArray tt (0, 0)) ⟨rfl, rfl, rfl, by simp [World.setRow], fun j hj hm => setRow_other w b j _ (by simpa using hm)⟩ (setRow_heap w b cs.toArray _ tt _ hb))
/-- bytes of an owned block, as a text -/
theorem sy_bytesr {x : Operand} {b c e e2 s2 l : Nat} {bs : List UInt8} {cs : List Value} {fr : Nat × Nat} {H1 : List Res} (i : Nat) (hs : P.underlying s = some (.slice e)) (he : P.underlying e = some (.int .u8)) (ht : P.underlying s2 = some .string) (hx : f.ev x = some (.slice (some ⟨b, 0, none⟩) l c)) (hp : pickR i H = some (.blk b (.cells cs.toArray e2 fr), H1)) (hl : bs.length = l) (hcs : cs = bs.map fun u => Value.int .u8 (u.toNat : Int))
    (hw : gok ops f g = some true) (hn : Nat.blt d n = true) (k : Sy m P ops Q n D w0 M h0 rest ((d, .string ⟨bs.toArray⟩) :: f) h H) : Sy m P ops Q n D w0 M h0 (⟨some d, .convert s s2 x, t, p, af, g⟩ :: rest) f h H :=
  sy_val hw rfl hn (fun a w ha hs' => by
    subst hl hcs
    have hb : w.heap[b]? = some (.cells (bs.map fun u => Value.int .u8 (u.toNat : Int)).toArray e2 fr) := (hs'.swap (pickR_perm hp)).ok _ (List.mem_cons_self)
    have hrun : (convert s s2 (.slice (some ⟨b, 0, none⟩) bs.length c)).run P w = .ok (.string ⟨bs.toArray⟩) w := by
      refine run_convert_bytes_back w s s2 e ⟨b, 0, none⟩ c bs hs he ht fun j hj => ?_
      rw [Addr.add_at]
      simp [World.cell?, hb, hj]
    simp only [execOp, ha.ev hx, Sem.run_bind, hrun, Result.andThen_ok, Sem.run_pure]) k
/-- a slice against nil -/
theorem sy_eqsl {op : BinOp} {x : Operand} {A : Option Addr} {l c e l2 c2 : Nat} {b : Bool} {s2 : Nat} (hs : P.underlying s = some (.slice e)) (hx : f.ev x = some (.slice A l c)) (hb : match op with | .eql => b = A.isNone | .neq => b = !A.isNone | _ => False) (hw : gok ops f g = some true) (hn : Nat.blt d n = true)
    (k : Sy m P ops Q n D w0 M h0 rest ((d, .bool b) :: f) h H) : Sy m P ops Q n D w0 M h0 (⟨some d, .binOp op s x (.const (.slice none l2 c2)) s2, t, p, af, g⟩ :: rest) f h H := by
  refine sy_val hw rfl hn (fun a w ha _ => ?_) k
  have heq : ∀ dd, (Op.equalIn (dd + 1) s (.slice A l c) (.slice none l2 c2)).run P w = .ok A.isNone w := fun dd => by
    cases A <;> simp [Op.equalIn, run_underlying hs]
  have heq2 : (Op.equal s (.slice A l c) (.slice none l2 c2)).run P w = .ok A.isNone w := heq 9999
  have hc : a.eval (.const (.slice none l2 c2)) = .slice none l2 c2 := rfl
  cases op <;> simp only at hb <;> first | exact hb.elim | (subst hb; simp [execOp, ha.ev hx, hc, eqGuard_at_slice, binOp, heq2])
theorem run_quo {a b z : Int} (h1 : 0 < b) (hz : Int.tdiv a b = z) (hl : -9223372036854775808 ≤ z) (hu : z ≤ 9223372036854775807) (w : World) : (binOp .quo s (.int .i64 a) (.int .i64 b)).run P w = .ok (.int .i64 z) w := by
  have h5 : ¬ b = 0 := by omega
  have h6 : ¬ b = -1 := by omega
  subst hz
  simp [binOp, Op.intDiv, h5, IntWalk.i64_in (Int.tdiv a b) ⟨hl, hu⟩]
/-- a quotient, cut towards zero -/
theorem sy_quo {x y : Operand} {m1 m2 z : Int} {s2 : Nat} (hx : f.ev x = some (.int .i64 m1)) (hy : f.ev y = some (.int .i64 m2)) (h1 : 0 < m2) (hz : Int.tdiv m1 m2 = z) (hl : -9223372036854775808 ≤ z) (hu : z ≤ 9223372036854775807) (hw : gok ops f g = some true) (hn : Nat.blt d n = true)
    (k : Sy m P ops Q n D w0 M h0 rest ((d, .int .i64 z) :: f) h H) : Sy m P ops Q n D w0 M h0 (⟨some d, .binOp .quo s x y s2, t, p, af, g⟩ :: rest) f h H :=
  sy_bin hx hy ⟨by simp, by simp⟩ (fun w => run_quo h1 hz hl hu w) hw hn k
/-! texts cut -/
theorem sy_strcut {x y z : Operand} {bs : ByteArray} {i1 i2 : IntKind} {lo hi : Nat} (hs : P.underlying s = some .string) (hx : f.ev x = some (.string bs)) (hy : f.ev y = some (.int i1 (lo : Int))) (hz : f.ev z = some (.int i2 (hi : Int))) (h1 : lo ≤ hi) (h2 : hi ≤ bs.size) (hw : gok ops f g = some true) (hn : Nat.blt d n = true)
    (k : Sy m P ops Q n D w0 M h0 rest ((d, .string (bs.extract lo hi)) :: f) h H) : Sy m P ops Q n D w0 M h0 (⟨some d, .slice s x (some y) (some z) none, t, p, af, g⟩ :: rest) f h H :=
  sy_val hw rfl hn (fun a w ha _ => by simp [execOp, ha.ev hx, ha.ev hy, ha.ev hz, Instr.sliceAt, Instr.slice, Instr.sliceBounds, Instr.sliceBound, asIntOf, run_underlying hs, h1, h2]) k
theorem sy_strfrom {x y : Operand} {bs : ByteArray} {i1 : IntKind} {lo : Nat} (hs : P.underlying s = some .string) (hx : f.ev x = some (.string bs)) (hy : f.ev y = some (.int i1 (lo : Int))) (h1 : lo ≤ bs.size) (hw : gok ops f g = some true) (hn : Nat.blt d n = true)
    (k : Sy m P ops Q n D w0 M h0 rest ((d, .string (bs.extract lo bs.size)) :: f) h H) : Sy m P ops Q n D w0 M h0 (⟨some d, .slice s x (some y) none none, t, p, af, g⟩ :: rest) f h H :=
  sy_val hw rfl hn (fun a w ha _ => by simp [execOp, ha.ev hx, ha.ev hy, Instr.sliceAt, Instr.slice, Instr.sliceBounds, Instr.sliceBound, asIntOf, run_underlying hs, h1]) k
theorem sy_strto {x z : Operand} {bs : ByteArray} {i2 : IntKind} {hi : Nat} (hs : P.underlying s = some .string) (hx : f.ev x = some (.string bs)) (hz : f.ev z = some (.int i2 (hi : Int))) (h2 : hi ≤ bs.size) (hw : gok ops f g = some true) (hn : Nat.blt d n = true)
    (k : Sy m P ops Q n D w0 M h0 rest ((d, .string (bs.extract 0 hi)) :: f) h H) : Sy m P ops Q n D w0 M h0 (⟨some d, .slice s x none (some z) none, t, p, af, g⟩ :: rest) f h H :=
  sy_val hw rfl hn (fun a w ha _ => by simp [execOp, ha.ev hx, ha.ev hz, Instr.sliceAt, Instr.slice, Instr.sliceBounds, Instr.sliceBound, asIntOf, run_underlying hs, h2]) k
end ops
theorem St.cellR {b off e : Nat} {cs : List Value} {fr : Nat × Nat} {v : Value} {H1 : List Res} {w : World} (i : Nat) (hp : pickR i H = some (.blk b (.cells cs.toArray e fr), H1)) (hc : cs[off]? = some v) (hs : St w0 M h0 h H w) : w.cell? ⟨b, off, none⟩ = some v := by
  have h1 : w.heap[b]? = some (.cells cs.toArray e fr) := (hs.swap (pickR_perm hp)).ok _ (List.mem_cons_self)
  simp [World.cell?, h1, hc]
/-! a loop, round by round -/
theorem cy_rounds {c : Code} (N : Nat) (k : Cy P c (Exit.then (Code.rounds P c Q N) Q) n D w0 M h0 f h H) : Cy P (.loop c) Q n D w0 M h0 f h H := fun a w ha hs => wp_loop_rounds (N + 1) (k a w ha hs)
theorem ny_again {c : Code} {N : Nat} (k : Cy P c (Exit.then (Code.rounds P c Q N) Q) n D w0 M h0 f h H) : Ny (Exit.then (Code.rounds P c Q (N + 1)) Q) .normal n D w0 M h0 f h H := fun a w ha hs => k a w ha hs
/-! entry -/
theorem enterXN {X : Type} {rv : X → Nat → Value} {Φ : X → Hp → Obj → Prop} {F : Nat} {fn : Func} {c : Code} {vs : List Value} (hf : P.funcs[F]? = some fn) (hb : fn.body = some c) (hi : initO 0 vs = some f) (hn : Nat.ble vs.length fn.ntmps = true)
    (k : ∀ w, Cy P c (bodyPost P fn fun e w' => ∃ x b h' o', e = .returned (rv x b) ∧ Φ x h' o' ∧ Grow h w h' w' ∧ w.heap.size ≤ b ∧ w'.heap[b]? = some o' ∧ h' b = none) fn.ntmps [] w [] h f h []) : CXN P F vs h rv Φ := fun w hs => enterM hf hb hi hn (St.start hs []) (k w)
theorem St.toNew {w w1 : World} {b : Nat} {ob : Obj} {H1 : List Res} (hs : St w [] h0 h (.blk b ob :: H1) w1) : Grow h0 w h w1 ∧ w.heap.size ≤ b ∧ w1.heap[b]? = some ob ∧ h b = none := by
  have h1 := hs.own _ (List.mem_cons_self) b rfl
  refine ⟨⟨hs.frm, hs.sub, hs.le, hs.old⟩, ?_, hs.ok _ (List.mem_cons_self), h1.1⟩
  rcases h1.2 with h2 | h2
  · exact h2
  · exact (List.not_mem_nil h2).elim
end
end Go.Proofs.Ytdbeiaohibgmeaa.E

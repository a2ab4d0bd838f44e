/- More rules of the engine: numbers of bits, slices cut, rows made of blocks, jumps back to a label. Conditions: none; plain lemmas. -/
import Derived.Test.YtdbeiaohibgmeaaEngCode
import Derived.Laws.Bits64b
import Derived.Laws.Small
set_option linter.unusedVariables false
set_option linter.unusedSimpArgs false
namespace Go.Proofs.Ytdbeiaohibgmeaa.E
open Go.RowKit

section
variable {m : Md} {P : Program} {ops : Array Oper} {Q : Exit → Act → World → Prop} {n : Nat} {D : List Deferred} {w0 : World} {M : List Nat} {h0 : Hp}
variable {f : Tab} {h : Hp} {H : List Res} {rest : List Oper} {o : Oper}
section ops
variable {d t s : Nat} {p : String} {af : Array Edge} {g : Option (Nat × Bool)}

/-! bits -/
theorem sy_andu {x y : Operand} {a b z : Nat} {s2 : Nat} (hx : f.ev x = some (.int .u64 (a : Int))) (hy : f.ev y = some (.int .u64 (b : Int))) (ha : a < 18446744073709551616) (hb : b < 18446744073709551616) (hz : a &&& b = z) (hw : gok ops f g = some true) (hn : Nat.blt d n = true)
    (k : Sy m P ops Q n D w0 M h0 rest ((d, .int .u64 (z : Int)) :: f) h H) : Sy m P ops Q n D w0 M h0 (⟨some d, .binOp .and s x y s2, t, p, af, g⟩ :: rest) f h H :=
  sy_bin hx hy ⟨by simp, by simp⟩ (fun w => by subst hz; rw [binOp_and, intBits_and, bits_and_u64_nat a b ha hb]; rfl) hw hn k
theorem sy_oru {x y : Operand} {a b z : Nat} {s2 : Nat} (hx : f.ev x = some (.int .u64 (a : Int))) (hy : f.ev y = some (.int .u64 (b : Int))) (ha : a < 18446744073709551616) (hb : b < 18446744073709551616) (hz : a ||| b = z) (hw : gok ops f g = some true) (hn : Nat.blt d n = true)
    (k : Sy m P ops Q n D w0 M h0 rest ((d, .int .u64 (z : Int)) :: f) h H) : Sy m P ops Q n D w0 M h0 (⟨some d, .binOp .or s x y s2, t, p, af, g⟩ :: rest) f h H :=
  sy_bin hx hy ⟨by simp, by simp⟩ (fun w => by subst hz; rw [binOp_or, intBits_or, bits_or_u64_nat a b ha hb]; rfl) hw hn k
theorem bits_and_i64_nat (a b : Nat) (ha : a < 9223372036854775808) (hb : b < 9223372036854775808) : bits .and .i64 (a : Int) (b : Int) = ((a &&& b : Nat) : Int) := by
  have hx : a &&& b < 2 ^ 63 := Nat.and_lt_two_pow _ (by omega)
  have h1 : (BitVec.ofInt 64 (a : Int)).toNat = a := by rw [BitVec.ofInt_natCast, BitVec.toNat_ofNat]; exact Nat.mod_eq_of_lt (by omega)
  have h2 : (BitVec.ofInt 64 (b : Int)).toNat = b := by rw [BitVec.ofInt_natCast, BitVec.toNat_ofNat]; exact Nat.mod_eq_of_lt (by omega)
  show IntKind.i64.wrap ((BitVec.ofInt 64 (a : Int) &&& BitVec.ofInt 64 (b : Int)).toNat : Int) = _
  rw [BitVec.toNat_and, h1, h2, IntKind.wrap_i64]
  omega
theorem bits_or_i64_nat (a b : Nat) (ha : a < 9223372036854775808) (hb : b < 9223372036854775808) : bits .or .i64 (a : Int) (b : Int) = ((a ||| b : Nat) : Int) := by
  have hx : a ||| b < 2 ^ 63 := Nat.or_lt_two_pow (by omega) (by omega)
  have h1 : (BitVec.ofInt 64 (a : Int)).toNat = a := by rw [BitVec.ofInt_natCast, BitVec.toNat_ofNat]; exact Nat.mod_eq_of_lt (by omega)
  have h2 : (BitVec.ofInt 64 (b : Int)).toNat = b := by rw [BitVec.ofInt_natCast, BitVec.toNat_ofNat]; exact Nat.mod_eq_of_lt (by omega)
  show IntKind.i64.wrap ((BitVec.ofInt 64 (a : Int) ||| BitVec.ofInt 64 (b : Int)).toNat : Int) = _
  rw [BitVec.toNat_or, h1, h2, IntKind.wrap_i64]
  omega
theorem sy_andi {x y : Operand} {a b z : Nat} {s2 : Nat} (hx : f.ev x = some (.int .i64 (a : Int))) (hy : f.ev y = some (.int .i64 (b : Int))) (ha : a < 9223372036854775808) (hb : b < 9223372036854775808) (hz : a &&& b = z) (hw : gok ops f g = some true) (hn : Nat.blt d n = true)
    (k : Sy m P ops Q n D w0 M h0 rest ((d, .int .i64 (z : Int)) :: f) h H) : Sy m P ops Q n D w0 M h0 (⟨some d, .binOp .and s x y s2, t, p, af, g⟩ :: rest) f h H :=
  sy_bin hx hy ⟨by simp, by simp⟩ (fun w => by subst hz; rw [binOp_and, intBits_and, bits_and_i64_nat a b ha hb]; rfl) hw hn k
theorem sy_ori {x y : Operand} {a b z : Nat} {s2 : Nat} (hx : f.ev x = some (.int .i64 (a : Int))) (hy : f.ev y = some (.int .i64 (b : Int))) (ha : a < 9223372036854775808) (hb : b < 9223372036854775808) (hz : a ||| b = z) (hw : gok ops f g = some true) (hn : Nat.blt d n = true)
    (k : Sy m P ops Q n D w0 M h0 rest ((d, .int .i64 (z : Int)) :: f) h H) : Sy m P ops Q n D w0 M h0 (⟨some d, .binOp .or s x y s2, t, p, af, g⟩ :: rest) f h H :=
  sy_bin hx hy ⟨by simp, by simp⟩ (fun w => by subst hz; rw [binOp_or, intBits_or, bits_or_i64_nat a b ha hb]; rfl) hw hn k
/-- .. to uint, of a number that fits -/
theorem sy_convu {x : Operand} {i1 : IntKind} {mm : Nat} {s2 : Nat} (hs : P.underlying s = some (.int i1)) (ht : P.underlying s2 = some (.int .u64)) (hx : f.ev x = some (.int i1 (mm : Int))) (hu : mm < 18446744073709551616) (hw : gok ops f g = some true) (hn : Nat.blt d n = true)
    (k : Sy m P ops Q n D w0 M h0 rest ((d, .int .u64 (mm : Int)) :: f) h H) : Sy m P ops Q n D w0 M h0 (⟨some d, .convert s s2 x, t, p, af, g⟩ :: rest) f h H :=
  sy_conv hs ht hx hw hn (by rw [IntWalk.u64_in (mm : Int) ⟨by omega, by omega⟩]; exact k)
theorem sy_shl1 {x y : Operand} {b : Nat} {ik : IntKind} {s2 : Nat} (hx : f.ev x = some (.int .u64 1)) (hy : f.ev y = some (.int ik (b : Int))) (hb : b < 64) (hw : gok ops f g = some true) (hn : Nat.blt d n = true)
    (k : Sy m P ops Q n D w0 M h0 rest ((d, .int .u64 ((2 ^ b : Nat) : Int)) :: f) h H) : Sy m P ops Q n D w0 M h0 (⟨some d, .binOp .shl s x y s2, t, p, af, g⟩ :: rest) f h H :=
  sy_bin hx hy ⟨by simp, by simp⟩ (fun w => by
    have h1 : ¬ ((b : Int) < 0) := by omega
    have h2 : min ((b : Int)).toNat IntKind.u64.bits = b := by
      have hb64 : IntKind.u64.bits = 64 := rfl
      rw [hb64]
      omega
    have h3 : 2 ^ b < 2 ^ 64 := Nat.pow_lt_pow_right (by omega) hb
    have h4 : IntKind.u64.wrap (1 * 2 ^ b) = ((2 ^ b : Nat) : Int) := by
      have : (1 * 2 ^ b : Int) = ((2 ^ b : Nat) : Int) := by simp
      rw [this, IntWalk.u64_in _ ⟨Int.natCast_nonneg _, by omega⟩]
    simp only [binOp, Op.shift, if_neg h1, h2, h4, Sem.run_pure]) hw hn k
theorem sy_shru {x y : Operand} {a b z : Nat} {ik : IntKind} {s2 : Nat} (hx : f.ev x = some (.int .u64 (a : Int))) (hy : f.ev y = some (.int ik (b : Int))) (hb : b < 64) (hz : a >>> b = z) (hw : gok ops f g = some true) (hn : Nat.blt d n = true)
    (k : Sy m P ops Q n D w0 M h0 rest ((d, .int .u64 (z : Int)) :: f) h H) : Sy m P ops Q n D w0 M h0 (⟨some d, .binOp .shr s x y s2, t, p, af, g⟩ :: rest) f h H :=
  sy_bin hx hy ⟨by simp, by simp⟩ (fun w => by
    have h1 : ¬ ((b : Int) < 0) := by omega
    have h2 : min ((b : Int)).toNat IntKind.u64.bits = b := by
      have hb64 : IntKind.u64.bits = 64 := rfl
      rw [hb64]
      omega
    have h3 : Int.fdiv (a : Int) (2 ^ b) = ((z : Nat) : Int) := by
      subst hz
      have : ((2 : Int) ^ b) = ((2 ^ b : Nat) : Int) := by simp
      rw [this, Int.fdiv_eq_ediv_of_nonneg _ (Int.natCast_nonneg _), Nat.shiftRight_eq_div_pow]
      rfl
    simp only [binOp, Op.shift, if_neg h1, h2, h3, Sem.run_pure]) hw hn k
theorem sy_max {x y : Operand} {ik : IntKind} {a b : Int} {s1 s2 : Nat} (hx : f.ev x = some (.int ik a)) (hy : f.ev y = some (.int ik b)) (hw : gok ops f g = some true) (hn : Nat.blt d n = true)
    (k : Sy m P ops Q n D w0 M h0 rest ((d, .int ik (if b > a then b else a)) :: f) h H) : Sy m P ops Q n D w0 M h0 (⟨some d, .call ⟨.builtin .max, #[x, y], #[s1, s2]⟩, t, p, af, g⟩ :: rest) f h H :=
  sy_val hw rfl hn (fun a w ha _ => by simp only [execOp, resolve, invoke, builtin, Sem.run_bind, Sem.run_pure, Result.andThen_ok, List.map_toArray, List.map_cons, List.map_nil, ha.ev hx, ha.ev hy, run_max_int2]) k
theorem sy_min {x y : Operand} {ik : IntKind} {a b : Int} {s1 s2 : Nat} (hx : f.ev x = some (.int ik a)) (hy : f.ev y = some (.int ik b)) (hw : gok ops f g = some true) (hn : Nat.blt d n = true)
    (k : Sy m P ops Q n D w0 M h0 rest ((d, .int ik (if b < a then b else a)) :: f) h H) : Sy m P ops Q n D w0 M h0 (⟨some d, .call ⟨.builtin .min, #[x, y], #[s1, s2]⟩, t, p, af, g⟩ :: rest) f h H :=
  sy_val hw rfl hn (fun a w ha _ => by simp only [execOp, resolve, invoke, builtin, Sem.run_bind, Sem.run_pure, Result.andThen_ok, List.map_toArray, List.map_cons, List.map_nil, ha.ev hx, ha.ev hy, run_min_int2]) k
theorem bit1 (x b : Nat) : (((x >>> b &&& 1 : Nat) : Int) == 1) = x.testBit b := by
  have h1 : x >>> b &&& 1 = (x.testBit b).toNat := by
    rw [Nat.and_one_is_mod, Nat.testBit_eq_decide_div_mod_eq, Nat.shiftRight_eq_div_pow]
    rcases Nat.mod_two_eq_zero_or_one (x / 2 ^ b) with h | h <;> simp [h]
  rw [h1]
  cases x.testBit b <;> rfl

/-! a slice cut at its end -/
theorem sy_cutTo {x y : Operand} {A : Option Addr} {l c e k0 : Nat} {sz : Nat} {ik : IntKind} (hs : elsB P s e sz = true) (hx : f.ev x = some (.slice A l c)) (hy : f.ev y = some (.int ik (k0 : Int))) (hk : k0 ≤ c) (hw : gok ops f g = some true) (hn : Nat.blt d n = true)
    (k : Sy m P ops Q n D w0 M h0 rest ((d, .slice A k0 c) :: f) h H) : Sy m P ops Q n D w0 M h0 (⟨some d, .slice s x none (some y) none, t, p, af, g⟩ :: rest) f h H := by
  obtain ⟨h2, inf, h3, h4⟩ := els_spec hs
  refine sy_val hw rfl hn (fun a w ha _ => ?_) k
  have h0 : Option.map (fun x => Addr.add x 0) A = A := by
    cases A with
    | none => rfl
    | some ad => simp [Addr.add]
  have h5 : (0 : Int) ≤ (k0 : Int) ∧ (k0 : Int) ≤ (c : Int) := by omega
  simp [execOp, ha.ev hx, ha.ev hy, Instr.sliceAt, Instr.slice, Instr.sliceBounds, Instr.sliceBound, asIntOf, run_underlying h2, sizeOf, typeInfo, h3, hk, h0]

/-! an owned block as a row -/
theorem St.asRow {b e l sz : Nat} {cs : List Value} {H1 : List Res} {w : World} (hs : St w0 M h0 h (.blk b (.cells cs.toArray e (0, 0)) :: H1) w) (hl : cs.length = l * sz) (hm : l ≤ maxLen) : St w0 M h0 h (.row (.slice (some ⟨b, 0, none⟩) l l) e sz l cs :: H1) w :=
  { hs with
    ok := fun r hr => by
      rcases List.mem_cons.1 hr with rfl | hr
      · exact ⟨hl, .inr ⟨b, l, cs.toArray, rfl, Nat.zero_le _, hs.ok _ (List.mem_cons_self), Nat.le_refl _, hm, by simpa using hl, by simp [← hl]⟩⟩
      · exact hs.ok r (List.mem_cons_of_mem _ hr)
    own := fun r hr k hk => by
      rcases List.mem_cons.1 hr with rfl | hr
      · exact hs.own (.blk b (.cells cs.toArray e (0, 0))) (List.mem_cons_self) k hk
      · exact hs.own r (List.mem_cons_of_mem _ hr) k hk
    dis := List.Pairwise.cons (fun r hr k hk => (List.pairwise_cons.1 hs.dis).1 r hr k hk) (List.pairwise_cons.1 hs.dis).2 }
theorem sy_asRow {b e l sz : Nat} {cs : List Value} {H1 : List Res} (i : Nat) (hp : pickR i H = some (.blk b (.cells cs.toArray e (0, 0)), H1)) (hl : cs.length = l * sz) (hm : l ≤ maxLen) (k : Sy .txt P ops Q n D w0 M h0 rest f h (.row (.slice (some ⟨b, 0, none⟩) l l) e sz l cs :: H1)) :
    Sy .txt P ops Q n D w0 M h0 rest f h H := fun a w ha hs => k a w ha ((hs.swap (pickR_perm hp)).asRow hl hm)
/-- a row given over to the ghost, between two operations -/
theorem sy_frzRow {v : Value} {e size l : Nat} {xs : List Value} {H1 : List Res} (i : Nat) (hp : pickR i H = some (.row v e size l xs, H1)) (hM : ∀ g, v.ownBlock = some g → g ∉ M)
    (k : ∀ A c h', v = .slice A l c → l ≤ c → c ≤ maxLen → xs.length = l * size → h.Le h' → (∀ j u, xs[j]? = some u → ∃ g, A = some ⟨g, 0, none⟩ ∧ h'.cell ⟨g, j, none⟩ = some u) → Sy .txt P ops Q n D w0 M h0 rest f h' H1) :
    Sy .txt P ops Q n D w0 M h0 rest f h H := fun a w ha hs => by
  obtain ⟨A, c, h', h1, h2, h3, h4, h5, h6, _, h7⟩ := frzRow i hp hM hs
  exact k A c h' h1 h2 h3 h4 h5 h6 a w ha h7
theorem cy_frzRow {cd : Code} {v : Value} {e size l : Nat} {xs : List Value} {H1 : List Res} (i : Nat) (hp : pickR i H = some (.row v e size l xs, H1)) (hM : ∀ g, v.ownBlock = some g → g ∉ M)
    (k : ∀ A c h', v = .slice A l c → l ≤ c → c ≤ maxLen → xs.length = l * size → h.Le h' → (∀ j u, xs[j]? = some u → ∃ g, A = some ⟨g, 0, none⟩ ∧ h'.cell ⟨g, j, none⟩ = some u) → Cy P cd Q n D w0 M h0 f h' H1) :
    Cy P cd Q n D w0 M h0 f h H := fun a w ha hs => by
  obtain ⟨A, c, h', h1, h2, h3, h4, h5, h6, _, h7⟩ := frzRow i hp hM hs
  exact k A c h' h1 h2 h3 h4 h5 h6 a w ha h7
/-- append of what the ghost tells -/
theorem sy_appendh {x y : Operand} {v : Value} {e size bytes l mm c : Nat} {A : Option Addr} {xs news : List Value} {H1 : List Res} (i : Nat) (hr : rowB P s e size bytes = true) (h0' : 0 < size)
    (hx : f.ev x = some v) (hp : pickR i H = some (.row v e size l xs, H1)) (hy : f.ev y = some (.slice A mm c)) (hA : A = none → mm = 0)
    (hl : news.length = mm * size) (hnews : ∀ j u, news[j]? = some u → ∃ ad : Addr, A = some ad ∧ h.cell (ad.add j) = some u) (h1 : ∀ u ∈ news, u.oneCell' = true) (hb : (l + mm) * bytes ≤ 140737488355328) (hlen : l + mm ≤ maxLen) (hw : gok ops f g = some true) (hn : Nat.blt d n = true)
    (k : ∀ v', Sy .txt P ops Q n D w0 M h0 rest ((d, v') :: f) h (.row v' e size (l + mm) (xs ++ news) :: H1)) :
    Sy .txt P ops Q n D w0 M h0 (⟨some d, .call ⟨.builtin .append, #[x, y], #[s, s]⟩, t, p, af, g⟩ :: rest) f h H :=
  sy_op hw fun a w ha hs => by
    obtain ⟨h2, inf, z, h3, h4, h5, h6, h7⟩ := row_spec hr
    have hs' := hs.swap (pickR_perm hp)
    have ho : w.ownsRow 0 e size v l xs := hs'.ok _ (List.mem_cons_self)
    cases A with
    | none =>
      have hm0 := hA rfl
      subst hm0
      have hn0 : news = [] := List.eq_nil_of_length_eq_zero (by simpa using hl)
      subst hn0
      have hrun : (execOp a.eval ⟨some d, .call ⟨.builtin .append, #[x, y], #[s, s]⟩, t, p, af, g⟩).run P w = .ok (.value v) w := by
        simp only [execOp, resolve, invoke, builtin, Sem.run_bind, Sem.run_pure, Result.andThen_ok, List.map_toArray, List.map_cons, List.map_nil, ha.ev hx, ha.ev hy]
        rcases ho.2 with ⟨rfl, _⟩ | ⟨gg, cap, cur, rfl, _, _, hnc, _⟩
        · simp [Builtin.append_, run_underlying h2, h3, sizeOf, typeInfo, Builtin.firstCells, Builtin.lenOf]
        · simp [Builtin.append_, run_underlying h2, h3, sizeOf, typeInfo, Builtin.firstCells, Builtin.lenOf, hnc, storeCells]
      unfold Oper.wp
      rw [hrun]
      refine k v _ w (ha.put d _ hn) ?_
      rw [Nat.add_zero, List.append_nil]
      exact hs'
    | some ad =>
      have hcell : ∀ jj u, news[jj]? = some u → w.cell? (ad.add jj) = some u := fun jj u hj => by
        obtain ⟨ad', he, hc⟩ := hnews jj u hj
        injection he with he
        subst he
        exact hs.sub.cell hc
      obtain ⟨v', w', hrun, ho', hg, _, hat⟩ := run_append_own_at (P := P) w 0 s t e inf z size bytes h2 h3 h4 h5 h6 h7 h0' v l xs ho ad mm c news hl hcell h1 hlen hb (Nat.zero_le _)
      have hrun' : (execOp a.eval ⟨some d, .call ⟨.builtin .append, #[x, y], #[s, s]⟩, t, p, af, g⟩).run P w = .ok (.value v') w' := by
        simp only [execOp, resolve, invoke, builtin, Sem.run_bind, Sem.run_pure, Result.andThen_ok, List.map_toArray, List.map_cons, List.map_nil, ha.ev hx, ha.ev hy, hrun]
      unfold Oper.wp
      rw [hrun']
      refine k v' _ w' (ha.put d _ hn) (hs'.rowed hg ho' ?_)
      rcases hat with hat | hat
      · exact .inl hat
      · exact .inr (.inl ⟨_, hat, Nat.le_refl _⟩)
/-! in a region that draws -/
theorem sy_buildSliceH {E : List Res} {ps : Array (Nat × Operand)} {vs : List (Nat × Value)} {cs : List Value} {e l : Nat} (hlo : loneB ops (ops.size - (rest.length + 1)) = true) (hx : partsO f ps.toList = some vs)
    (hr : ∀ w, (Instr.buildSlice t l vs.toArray).run P w = .ok (.slice (some ⟨w.heap.size, 0, none⟩) l l) (w.alloc (.cells cs.toArray e))) (hw : gok ops f g = some true) (hn : Nat.blt d n = true)
    (k : ∀ b, w0.heap.size ≤ b → b ∉ M → Sy (.held (.blk b (.cells cs.toArray e (0, 0)) :: E)) P ops Q n D w0 M h0 rest ((d, .slice (some ⟨b, 0, none⟩) l l) :: f) h H) (hM : ∀ x ∈ M, x < w0.heap.size) :
    Sy (.held E) P ops Q n D w0 M h0 (⟨some d, .buildSlice t l ps, s, p, af, g⟩ :: rest) f h H :=
  sy_eff hlo hw fun a w ha hs => by
    have h1 : (ps.map fun q => (q.1, a.eval q.2)) = vs.toArray := by
      rw [← partsO_spec ha hx]
      apply Array.ext'
      simp
    have h2 : (ps.map fun x => match x with | (i, x) => (i, a.eval x)) = vs.toArray := h1
    have hrun : (execOp a.eval ⟨some d, .buildSlice t l ps, s, p, af, g⟩).run P w = .ok (.value (.slice (some ⟨w.heap.size, 0, none⟩) l l)) (w.alloc (.cells cs.toArray e)) := by
      simp only [execOp, h2, Sem.run_bind, hr, Result.andThen_ok, Sem.run_pure]
    exact ⟨_, _, _, .blk w.heap.size (.cells cs.toArray e (0, 0)) :: E, _, hrun, .inl rfl, ha.put d _ hn, hs.alloc _, k w.heap.size hs.frm.size (fun hx => by have := hM _ hx; have := hs.frm.size; omega)⟩
theorem sy_appendH {E E1 E2 : List Res} {x y : Operand} {v : Value} {e size bytes l mm c b : Nat} {xs cs news : List Value} {e2 : Nat} {fr : Nat × Nat} (i j : Nat) (hlo : loneB ops (ops.size - (rest.length + 1)) = true) (hr : rowB P s e size bytes = true) (h0' : 0 < size)
    (hx : f.ev x = some v) (hp : pickR i E = some (.row v e size l xs, E1)) (hy : f.ev y = some (.slice (some ⟨b, 0, none⟩) mm c)) (hq : pickR j E = some (.blk b (.cells cs.toArray e2 fr), E2))
    (hnews : sliceO 0 (mm * size) cs = some news) (h1 : ones news = true) (hb : (l + mm) * bytes ≤ 140737488355328) (hlen : l + mm ≤ maxLen) (hw : gok ops f g = some true) (hn : Nat.blt d n = true)
    (k : ∀ v', Sy (.held (.row v' e size (l + mm) (xs ++ news) :: E1)) P ops Q n D w0 M h0 rest ((d, v') :: f) h H) :
    Sy (.held E) P ops Q n D w0 M h0 (⟨some d, .call ⟨.builtin .append, #[x, y], #[s, s]⟩, t, p, af, g⟩ :: rest) f h H :=
  sy_eff hlo hw fun a w ha hs => by
    obtain ⟨h2, inf, z, h3, h4, h5, h6, h7⟩ := row_spec hr
    have hs' : St w0 M h0 h (.row v e size l xs :: (E1 ++ H)) w := hs.swap ((pickR_perm hp).append_right H)
    have ho : w.ownsRow 0 e size v l xs := hs'.ok _ (List.mem_cons_self)
    have hbk : w.heap[b]? = some (.cells cs.toArray e2 fr) := (hs.swap ((pickR_perm hq).append_right H)).ok _ (List.mem_cons_self)
    obtain ⟨hl1, hl2⟩ := sliceO_spec hnews
    have hcell : ∀ jj u, news[jj]? = some u → w.cell? ((⟨b, 0, none⟩ : Addr).add jj) = some u := fun jj u hj => by
      rw [Addr.add_at]
      have := hl2 jj u hj
      simp only [Nat.zero_add] at this ⊢
      simp [World.cell?, hbk, this]
    obtain ⟨v', w', hrun, ho', hg, _, hat⟩ := run_append_own_at (P := P) w 0 s t e inf z size bytes h2 h3 h4 h5 h6 h7 h0' v l xs ho ⟨b, 0, none⟩ mm c news hl1 hcell (ones_spec h1) hlen hb (Nat.zero_le _)
    have hrun' : (execOp a.eval ⟨some d, .call ⟨.builtin .append, #[x, y], #[s, s]⟩, t, p, af, g⟩).run P w = .ok (.value v') w' := by
      simp only [execOp, resolve, invoke, builtin, Sem.run_bind, Sem.run_pure, Result.andThen_ok, List.map_toArray, List.map_cons, List.map_nil, ha.ev hx, ha.ev hy, hrun]
    exact ⟨_, _, _, .row v' e size (l + mm) (xs ++ news) :: E1, _, hrun', .inl rfl, ha.put d _ hn, hs'.rowed hg ho' (by
      rcases hat with hat | hat
      · exact .inl hat
      · exact .inr (.inl ⟨_, hat, Nat.le_refl _⟩)), k v'⟩
/-- a slice made whole -/
theorem run_makeAll {e sz : Nat} {inf : TypeInfo} {z : Value} {cs : List Value} (ht : P.underlying s = some (.slice e)) (hi : P.info? e = some inf) (hz : inf.zero = some z) (hsz : inf.size = 1) (hzc : z.cells = #[cs.headD undef]) (hone : cs = [cs.headD undef])
    {k1 k2 : IntKind} {c : Nat} (hby : inf.bytes * c ≤ 281474976710656) (hm : c ≤ maxLen) (w : World) :
    ∃ w', (Instr.makeSlice s (.int k1 (c : Int)) (.int k2 (c : Int))).run P w = .ok (.slice (some ⟨w.heap.size, 0, none⟩) c c) w' ∧ w' = w.alloc (.cells (List.replicate c (cs.headD undef)).toArray e) := by
  have h63' : (c : Int) ≤ 9223372036854775807 := by
    have h := hm
    simp [maxLen] at h
    omega
  have hb' : (inf.bytes : Int) * (c : Int) ≤ 281474976710656 := by
    have h : ((inf.bytes * c : Nat) : Int) ≤ 281474976710656 := by omega
    rwa [Int.natCast_mul] at h
  have hr := run_make (P := P) w s e inf z ht hi hz k1 k2 c c (by omega) (Int.le_refl _) hb' h63'
  simp only [Int.toNat_natCast] at hr
  refine ⟨_, hr, ?_⟩
  have : madeCells z.cells (c * inf.size) = (List.replicate c (cs.headD undef)).toArray := by
    apply Array.ext'
    rw [hzc, hsz, Nat.mul_one, toList_madeCells_one]
  rw [this]
def makeB (P : Program) (s e bytes : Nat) (z : Value) : Bool :=
  (match P.underlying s with
  | some (.slice e') => e' == e
  | _ => false) && (match P.info? e with
  | some inf => inf.size == 1 && inf.bytes == bytes && (match inf.zero with | some z' => (match cellsO z', cellsO z with | some [a], some [b] => valB a b | _, _ => false) | none => false)
  | none => false)
where valB : Value → Value → Bool
  | .bool a, .bool b => a == b
  | .int k a, .int k' b => decide (k = k') && a == b
  | .string a, .string b => a.data.toList == b.data.toList
  | .slice none 0 0, .slice none 0 0 => true
  | .pointer none, .pointer none => true
  | _, _ => false
end ops

/-! a jump back to a label -/
theorem leastNat {p : Nat → Prop} (h : ∃ k, p k) : ∃ k, p k ∧ ∀ j, p j → k ≤ j := by
  obtain ⟨k, hk⟩ := h
  induction k using Nat.strongRecOn with
  | _ k ih =>
    by_cases h1 : ∃ j, j < k ∧ p j
    · obtain ⟨j, hj, hp⟩ := h1
      exact ih j hj hp
    · exact ⟨k, hk, fun j hj => Nat.le_of_not_lt fun hlt => h1 ⟨j, hlt, hj⟩⟩
theorem cy_jumps {ι : Type} {rest' : Code} {l : Nat} (J : ι → Prop) (μ : ι → Nat) (F : ι → Tab) (G : ι → Hp) (R : ι → List Res) (i0 : ι) (is : List Nat) (hf : findLabel (.seq (.label l) rest') l = some (.seq .skip rest')) (hJ : J i0) (hF : Tab.Le (F i0) f) (hG : G i0 = h) (hR : selR is H = some (R i0))
    (pass : ∀ i, J i → Cy P rest' (Exit.jump l (Round J μ F G R n D w0 M h0 i) Q) n D w0 M h0 (F i) (G i) (R i)) : Cy P (.scope (.seq (.label l) rest')) Q n D w0 M h0 f h H := by
  classical
  intro a w ha hs
  let Z : Act → World → Nat → Prop := fun a w k => ∃ i, J i ∧ μ i = k ∧ Holds n D (F i) a ∧ St w0 M h0 (G i) (R i) w
  let mu : Act → World → Nat := fun a w => if hx : ∃ k, Z a w k then Classical.choose (leastNat hx) else 0
  have mule : ∀ a w k, Z a w k → mu a w ≤ k := fun a w k hk => by
    have hx : ∃ k, Z a w k := ⟨k, hk⟩
    simp only [mu, dif_pos hx]
    exact (Classical.choose_spec (leastNat hx)).2 k hk
  have muat : ∀ a w, (∃ k, Z a w k) → Z a w (mu a w) := fun a w hx => by
    simp only [mu, dif_pos hx]
    exact (Classical.choose_spec (leastNat hx)).1
  refine wp_scope_jumps l (fun a w => ∃ k, Z a w k) mu hf ?_ ?_
  · refine wp_seq (wp_label ?_)
    refine wp_mono (pass i0 hJ a w (ha.weak hF) (by rw [hG]; exact hs.sel hR)) ?_
    intro e a' w' hq
    cases e with
    | goto l' =>
      obtain ⟨hl, i', h1, h2, h3, h4⟩ := hq
      exact ⟨hl, μ i', i', h1, rfl, h3, h4⟩
    | normal => exact hq
    | exit id => exact hq
    | ret => exact hq
    | panic ch => exact hq
    | outgrown => exact hq
  · intro a w hx
    obtain ⟨i, h1, h2, h3, h4⟩ := muat a w hx
    refine wp_seq (wp_skip ?_)
    refine wp_mono (pass i h1 a w h3 h4) ?_
    intro e a' w' hq
    cases e with
    | goto l' =>
      obtain ⟨hl, i', k1, k2, k3, k4⟩ := hq
      have k5 : Z a' w' (μ i') := ⟨i', k1, rfl, k3, k4⟩
      exact ⟨hl, ⟨_, k5⟩, Nat.lt_of_le_of_lt (mule a' w' _ k5) (by rw [← h2]; exact k2)⟩
    | normal => exact hq
    | exit id => exact hq
    | ret => exact hq
    | panic ch => exact hq
    | outgrown => exact hq
theorem ny_jump {ι : Type} {l : Nat} {J : ι → Prop} {μ : ι → Nat} {F : ι → Tab} {G : ι → Hp} {R : ι → List Res} {i : ι} (i' : ι) (is : List Nat) (hJ : J i') (hμ : μ i' < μ i) (hF : Tab.Le (F i') f) (hG : G i' = h) (hR : selR is H = some (R i')) :
    Ny (Exit.jump l (Round J μ F G R n D w0 M h0 i) Q) (.goto l) n D w0 M h0 f h H := fun a w ha hs => ⟨rfl, i', hJ, hμ, ha.weak hF, by rw [hG]; exact hs.sel hR⟩
theorem ny_jumpN {l : Nat} {K : Act → World → Prop} (k : Ny Q .normal n D w0 M h0 f h H) : Ny (Exit.jump l K Q) .normal n D w0 M h0 f h H := k
theorem ny_jumpR {l : Nat} {K : Act → World → Prop} (k : Ny Q .ret n D w0 M h0 f h H) : Ny (Exit.jump l K Q) .ret n D w0 M h0 f h H := k
end
end Go.Proofs.Ytdbeiaohibgmeaa.E

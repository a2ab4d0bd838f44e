/- The engine, the plain laws and the walks of this seat, part 2: what the functions answer. Conditions: as each says; printed by programs of this session. -/
import Derived.Test.YtanhhihechakhaaDoorProg
import Derived.Lib.AppendStr
import Derived.Lib.UnsafeStr
import Derived.Lib.Builder
import Derived.Shelf.Small.Strs
import Derived.Shelf.Strings.Search1
import Derived.Shelf.Slices.Turned
import Derived.Lib.AppendIntMem
import Derived.Test.YtanhhihechakhaaDoorMa
set_option linter.unusedVariables false
set_option linter.unusedSimpArgs false
namespace Go.Proofs.YtanhhihechakhaaDoor.ReadP
open Go.RowKit Go.Proofs.YtanhhihechakhaaDoor.E Go.Proofs.YtanhhihechakhaaDoor.TokP Go.Proofs.YtanhhihechakhaaDoor.TermP Go.Proofs.YtanhhihechakhaaDoor.WrP Go.Proofs.YtanhhihechakhaaDoor.OpsP
def rtC (t : RT) : List Value := [.int .i64 t.kind, .string t.str, .int .i64 t.num, .bool t.quo, .bool t.tight]
def faultV (T : Nat) (a : Nat) (e : Int) : Value := .iface T (.agg #[.int .i64 (a : Int), .int .i64 e])
inductive RX (α D : Type) where
 | ok (x : α) (s : RSt) (d : D)
 | bad (a : Nat) (e : Int)
def rvX {α D : Type} (T : Nat) (rv : α → D → Value) : RX α D → Ending
 | .ok x _ d => .returned (rv x d)
 | .bad a e => .panicked [{ v := faultV T a e, recovered := false }]
def ΦX {α D : Type} (ro : RO α) (Φ : α → RSt → D → Hp → List Res → Prop) (Ψ : Hp → List Res → Prop) : RX α D → Hp → List Res → Prop
 | .ok x s d, h, H => ro = .ok x s ∧ Φ x s d h H
 | .bad a e, h, H => ro = .bad a e ∧ Ψ h H
def CRO {α D : Type} (P : Program) (F : Nat) (vs : List Value) (h : Hp) (Hin : List Res) (T : Nat) (ro : RO α) (rv : α → D → Value) (Φ : α → RSt → D → Hp → List Res → Prop) (Ψ : Hp → List Res → Prop) : Prop :=
 CR P F vs h Hin (rvX T rv) (ΦX ro Φ Ψ)
section
variable {P : Program} {ops : Array Oper} {Q : Exit → Act → World → Prop} {n : Nat} {D : List Deferred} {w0 : World} {M : List Nat} {h0 : Hp} {f : Tab} {h : Hp} {H : List Res} {rest : List Oper}
variable {d t : Nat} {p : String} {af : Array Edge} {g : Option (Nat × Bool)} {F : Nat} {args : Array Operand} {tys : Array TypeId} {vs : List Value}
theorem sy_callRO {α Dt : Type} {T : Nat} {ro : RO α} {rv : α → Dt → Value} {Φ : α → RSt → Dt → Hp → List Res → Prop} {Ψ : Hp → List Res → Prop} {Hin H1 : List Res} (is : List Nat) (hF : callB P F = true) (hx : f.evs args.toList = some vs) (hp : pickRs is H = some (Hin, H1)) (hc : CRO P F vs h Hin T ro rv Φ Ψ) (hw : gok ops f g = some true) (hn : Nat.blt d n = true)
    (kbad : ∀ a e h' H', ro = .bad a e → Ψ h' H' → h.Le h' → Ny Q (.panic [{ v := faultV T a e, recovered := false }]) n D w0 M h0 f h' (H' ++ H1))
    (kok : ∀ x s dt h' H', ro = .ok x s → Φ x s dt h' H' → h.Le h' → Sy .txt P ops Q n D w0 M h0 rest ((d, rv x dt) :: f) h' (H' ++ H1)) : Sy .txt P ops Q n D w0 M h0 (⟨some d, .call ⟨.value (.func F), args, tys⟩, t, p, af, g⟩ :: rest) f h H :=
 sy_callR is hF hx hp hc hw hn fun x h' H' hΦ hle => by
  cases x with
  | ok x s dt => exact kok x s dt h' H' hΦ.1 hΦ.2 hle
  | bad a e => exact kbad a e h' H' hΦ.1 hΦ.2 hle
end
section
variable {P : Program} {ops : Array Oper} {Q : Exit → Act → World → Prop} {n : Nat} {D : List Deferred} {w0 : World} {M : List Nat} {h0 : Hp} {f : Tab} {h : Hp} {H : List Res} {rest : List Oper}
variable {d t s : Nat} {p : String} {af : Array Edge} {g : Option (Nat × Bool)}
theorem sy_negw {m : Md} {x : Operand} {mm : Int} (hs : P.underlying s = some (.int .i64)) (hx : f.ev x = some (.int .i64 mm)) (hw : gok ops f g = some true) (hn : Nat.blt d n = true)
    (k : Sy m P ops Q n D w0 M h0 rest ((d, .int .i64 (IntKind.i64.wrap (-mm))) :: f) h H) : Sy m P ops Q n D w0 M h0 (⟨some d, .unOp .neg s x, t, p, af, g⟩ :: rest) f h H :=
 sy_val hw rfl hn (fun a w ha _ => by simp [execOp, ha.ev hx, Op.unary, Op.intArith]) k
theorem wrap_bounds (z : Int) : -9223372036854775808 ≤ IntKind.i64.wrap z ∧ IntKind.i64.wrap z ≤ 9223372036854775807 := by
 have h1 := Int.emod_nonneg z (b := 18446744073709551616) (by decide)
 have h2 := Int.emod_lt_of_pos z (b := 18446744073709551616) (by decide)
 by_cases h : 9223372036854775808 ≤ z % 18446744073709551616
 · have e : IntKind.i64.wrap z = z % 18446744073709551616 - 18446744073709551616 := by
    unfold IntKind.wrap
    simp [IntKind.signed, IntKind.bits, h]
   rw [e]
   omega
 · have e : IntKind.i64.wrap z = z % 18446744073709551616 := by
    unfold IntKind.wrap
    simp [IntKind.signed, IntKind.bits, h]
   rw [e]
   omega
theorem sy_appendN {x y : Operand} {v : Value} {e size bytes l mm c b : Nat} {xs cs news : List Value} {H1 : List Res} {e2 : Nat} {fr : Nat × Nat} {H2 : List Res} (i j : Nat) (hr : rowB P s e size bytes = true) (h0' : 0 < size)
    (hx : f.ev x = some v) (hp : pickR i H = some (.row v e size l xs, H1)) (hy : f.ev y = some (.slice (some ⟨b, 0, none⟩) mm c)) (hq : pickR j H = some (.blk b (.cells cs.toArray e2 fr), H2))
    (hnews : sliceO 0 (mm * size) cs = some news) (h1 : ones news = true) (hb : (l + mm) * bytes ≤ 140737488355328) (hlen : l + mm ≤ maxLen) (hw : gok ops f g = some true) (hn : Nat.blt d n = true)
    (k : ∀ v', (∀ g, v'.ownBlock = some g → v.ownBlock = some g ∨ w0.heap.size ≤ g) → Sy .txt P ops Q n D w0 M h0 rest ((d, v') :: f) h (.row v' e size (l + mm) (xs ++ news) :: H1)) :
    Sy .txt P ops Q n D w0 M h0 (⟨some d, .call ⟨.builtin .append, #[x, y], #[s, s]⟩, t, p, af, g⟩ :: rest) f h H :=
 sy_op hw fun a w ha hs => by
  obtain ⟨h2, inf, z, h3, h4, h5, h6, h7⟩ := row_spec hr
  have hs' := hs.swap (pickR_perm hp)
  have ho : w.ownsRow 0 e size v l xs := hs'.ok _ (List.mem_cons_self)
  have hbk : w.heap[b]? = some (.cells cs.toArray e2 fr) := (hs.swap (pickR_perm hq)).ok _ (List.mem_cons_self)
  obtain ⟨hl1, hl2⟩ := sliceO_spec hnews
  have hcell : ∀ jj u, news[jj]? = some u → w.cell? ((⟨b, 0, none⟩ : Addr).add jj) = some u := fun jj u hj => by
   rw [Addr.add_at]
   have := hl2 jj u hj
   simp only [Nat.zero_add] at this ⊢
   simp [World.cell?, hbk, this]
  obtain ⟨v', w', hrun, ho', hg, _, hat⟩ := run_append_own_at (P := P) w 0 s t e inf z size bytes h2 h3 h4 h5 h6 h7 h0' v l xs ho ⟨b, 0, none⟩ mm c news hl1 hcell (ones_spec h1) hlen hb (Nat.zero_le _)
  have hrun' : (execOp a.eval ⟨some d, .call ⟨.builtin .append, #[x, y], #[s, s]⟩, t, p, af, g⟩).run P w = .ok (.value v') w' := by
   simp only [execOp, resolve, invoke, builtin, Sem.run_bind, Sem.run_pure, Result.andThen_ok, List.map_toArray, List.map_cons, List.map_nil, ha.ev hx, ha.ev hy, hrun]
  unfold Oper.wp
  rw [hrun']
  refine k v' (fun g hg => ?_) _ w' (ha.put d _ hn) (hs'.rowed hg ho' ?_)
  · rcases hat with hat | hat
    · exact .inl (hat ▸ hg)
    · rw [hat] at hg
      cases hg
      exact .inr hs.frm.size
  · rcases hat with hat | hat
    · exact .inl hat
    · exact .inr (.inl ⟨_, hat, Nat.le_refl _⟩)
end
/-! the tokens that are handed in -/
def TokOk (t : RT) : Prop := (-9223372036854775808 ≤ t.kind ∧ t.kind ≤ 9223372036854775807) ∧ t.str.size ≤ 4398046511104 ∧ (-9223372036854775808 ≤ t.num ∧ t.num ≤ 9223372036854775807)
theorem tokA_ok {L : List RT} (h : ∀ t ∈ L, TokOk t) (i : Nat) : TokOk (tokA L i) := by
 unfold tokA
 cases hi : L[i]? with
 | none => exact ⟨by decide, by decide, by decide⟩
 | some t => exact h t (List.mem_of_getElem? hi)
theorem lastI_snoc : ∀ (l : List ByteArray) (u : ByteArray), lastI (l ++ [u]) = updM (lastI l) u l.length
 | [], u => by
  funext s
  simp only [List.nil_append, lastI, updM]
  by_cases h : s = u
  · subst h; simp
  · simp [h, Ne.symm h]
 | x :: l, u => by
  funext s
  rw [List.cons_append]
  have ih := congrFun (lastI_snoc l u) s
  simp only [lastI, ih, updM, List.length_cons]
  by_cases h : s = u
  · simp [h]
  · simp [h]
theorem lastI_lt : ∀ {l : List ByteArray} {s : ByteArray} {i : Nat}, lastI l s = some i → i < l.length
 | [], s, i, h => by cases h
 | x :: l, s, i, h => by
  simp only [lastI] at h
  split at h
  · rename_i j hj
    have := lastI_lt hj
    cases h
    rw [List.length_cons]
    omega
  · split at h
    · cases h
      rw [List.length_cons]
      omega
    · cases h
end Go.Proofs.YtanhhihechakhaaDoor.ReadP
set_option linter.unusedVariables false
set_option linter.unusedSimpArgs false
namespace Go.Proofs.YtanhhihechakhaaDoor.E
open Go.RowKit
section
variable {m : Md} {P : Program} {ops : Array Oper} {Q : Exit → Act → World → Prop} {n : Nat} {D : List Deferred} {w0 : World} {M : List Nat} {h0 : Hp}
variable {f : Tab} {h : Hp} {H : List Res} {rest : List Oper} {o : Oper}
theorem rescS {fn : Func} {t ty e l : Nat} {fr : Nat × Nat} {b : Nat} {cs vs : List Value} {H1 : List Res} (i : Nat) (hr : fn.results = #[.cell t ty]) (hty : aggB P ty l = true) (hv : f.get t = some (.pointer (some ⟨b, 0, none⟩)))
    (hp : pickR i H = some (.blk b (.cells cs.toArray e fr), H1)) (hc : sliceO 0 l cs = some vs) :
    ∀ a w, Holds n [] f a → St w0 M h0 h H w → (results fn a.tmps).run P w = .ok (.agg vs.toArray) w := fun a w ha hs => by
 have h1 := ha.get t _ hv
 have hb : w.heap[b]? = some (.cells cs.toArray e fr) := (hs.swap (pickR_perm hp)).ok _ (List.mem_cons_self)
 obtain ⟨h5, h6⟩ := agg_spec hty w
 obtain ⟨h7, h8⟩ := sliceO_spec hc
 subst h7
 have h3 := run_loadCells_list (P := P) w ⟨b, 0, none⟩ vs (fun j u hj => by
  rw [Addr.add_at]
  have := h8 j u hj
  simp only [Nat.zero_add] at this ⊢
  simp [World.cell?, hb, this])
 simp [results, hr, h1, asAddr, loadVar, h5, h6, h3]
end
end Go.Proofs.YtanhhihechakhaaDoor.E
namespace Go.Proofs.YtanhhihechakhaaDoor
open Go.RowKit Go.Proofs.YtanhhihechakhaaDoor.E
theorem mixed : Tryd.prog.follows .mixedOrders = true := by kernel_rfl
end Go.Proofs.YtanhhihechakhaaDoor
set_option linter.unusedVariables false
namespace Go.Proofs.YtanhhihechakhaaDoor
open Go.RowKit Go.Proofs.YtanhhihechakhaaDoor.E
theorem call_43 : callB Tryd.prog 43 = true := by kernel_rfl
theorem call_46 : callB Tryd.prog 46 = true := by kernel_rfl
theorem call_47 : callB Tryd.prog 47 = true := by kernel_rfl
theorem call_48 : callB Tryd.prog 48 = true := by kernel_rfl
theorem call_49 : callB Tryd.prog 49 = true := by kernel_rfl
theorem call_52 : callB Tryd.prog 52 = true := by kernel_rfl
theorem call_54 : callB Tryd.prog 54 = true := by kernel_rfl
theorem call_63 : callB Tryd.prog 63 = true := by kernel_rfl
end Go.Proofs.YtanhhihechakhaaDoor
set_option linter.unusedVariables false
namespace Go.Proofs.YtanhhihechakhaaDoor
open Go.RowKit Go.Proofs.YtanhhihechakhaaDoor.E
theorem bld_84_0x1 {x1 : ByteArray} {x2 : Int} (w : World) : (Instr.build 84 #[(0, .string x1), (1, .int .i64 x2)]).run Tryd.prog w = .ok (.agg #[.string x1, .int .i64 x2]) w := by kernel_rfl
theorem call_44 : callB Tryd.prog 44 = true := by kernel_rfl
theorem call_45 : callB Tryd.prog 45 = true := by kernel_rfl
theorem call_64 : callB Tryd.prog 64 = true := by kernel_rfl
theorem call_73 : callB Tryd.prog 73 = true := by kernel_rfl
end Go.Proofs.YtanhhihechakhaaDoor
set_option linter.unusedVariables false
namespace Go.Proofs.YtanhhihechakhaaDoor
open Go.RowKit Go.Proofs.YtanhhihechakhaaDoor.E
theorem agg_65 : aggB Tryd.prog 65 5 = true := by kernel_rfl
theorem bld_65_  (w : World) : (Instr.build 65 #[]).run Tryd.prog w = .ok (.agg #[.int .i64 0, .string ⟨#[]⟩, .int .i64 0, .bool false, .bool false]) w := by kernel_rfl
theorem bld_65_0x2 {x1 : Int} {x2 : Int} (w : World) : (Instr.build 65 #[(0, .int .i64 x1), (2, .int .i64 x2)]).run Tryd.prog w = .ok (.agg #[.int .i64 x1, .string ⟨#[]⟩, .int .i64 x2, .bool false, .bool false]) w := by kernel_rfl
theorem call_31 : callB Tryd.prog 31 = true := by kernel_rfl
theorem els_36 : elsB Tryd.prog 36 5 1 = true := by kernel_rfl
theorem one_5 : oneB Tryd.prog 5 = true := by kernel_rfl
theorem sz_65 : szB Tryd.prog 65 5 = true := by kernel_rfl
theorem zer_65 : zerL Tryd.prog 65 = some [.int .i64 0, .string ⟨#[]⟩, .int .i64 0, .bool false, .bool false] := by kernel_rfl
end Go.Proofs.YtanhhihechakhaaDoor
set_option linter.unusedVariables false
namespace Go.Proofs.YtanhhihechakhaaDoor
open Go.RowKit Go.Proofs.YtanhhihechakhaaDoor.E
theorem bld_65_0x1x3 {x1 : Int} {x2 : ByteArray} {x3 : Bool} (w : World) : (Instr.build 65 #[(0, .int .i64 x1), (1, .string x2), (3, .bool x3)]).run Tryd.prog w = .ok (.agg #[.int .i64 x1, .string x2, .int .i64 0, .bool x3, .bool false]) w := by kernel_rfl
theorem bsl_36_1_0 {x1 : Int} (w : World) : (Instr.buildSlice 36 1 #[(0, .int .u8 x1)]).run Tryd.prog w = .ok (.slice (some ⟨w.heap.size, 0, none⟩) 1 1) (w.alloc (.cells #[.int .u8 x1] 5)) := by kernel_rfl
theorem call_62 : callB Tryd.prog 62 = true := by kernel_rfl
theorem row_36 : rowB Tryd.prog 36 5 1 1 = true := by kernel_rfl
end Go.Proofs.YtanhhihechakhaaDoor
set_option linter.unusedVariables false
namespace Go.Proofs.YtanhhihechakhaaDoor
open Go.RowKit Go.Proofs.YtanhhihechakhaaDoor.E
theorem bld_65_0 {x1 : Int} (w : World) : (Instr.build 65 #[(0, .int .i64 x1)]).run Tryd.prog w = .ok (.agg #[.int .i64 x1, .string ⟨#[]⟩, .int .i64 0, .bool false, .bool false]) w := by kernel_rfl
theorem call_50 : callB Tryd.prog 50 = true := by kernel_rfl
theorem call_51 : callB Tryd.prog 51 = true := by kernel_rfl
theorem call_53 : callB Tryd.prog 53 = true := by kernel_rfl
theorem fld_65_0 : fldB Tryd.prog 65 0 0 = true := by kernel_rfl
theorem fld_65_1 : fldB Tryd.prog 65 1 1 = true := by kernel_rfl
theorem sz_3 : szB Tryd.prog 3 1 = true := by kernel_rfl
theorem sz_9 : szB Tryd.prog 9 1 = true := by kernel_rfl
end Go.Proofs.YtanhhihechakhaaDoor
set_option linter.unusedVariables false
namespace Go.Proofs.YtanhhihechakhaaDoor
open Go.RowKit Go.Proofs.YtanhhihechakhaaDoor.E
theorem bsl_45_1_0 {x1 : Int} {x2 : ByteArray} {x3 : Int} {x4 : Bool} {x5 : Bool} (w : World) : (Instr.buildSlice 45 1 #[(0, .agg #[.int .i64 x1, .string x2, .int .i64 x3, .bool x4, .bool x5])]).run Tryd.prog w = .ok (.slice (some ⟨w.heap.size, 0, none⟩) 1 1) (w.alloc (.cells #[.int .i64 x1, .string x2, .int .i64 x3, .bool x4, .bool x5] 65)) := by kernel_rfl
theorem call_32 : callB Tryd.prog 32 = true := by kernel_rfl
theorem call_33 : callB Tryd.prog 33 = true := by kernel_rfl
theorem fld_65_4 : fldB Tryd.prog 65 4 4 = true := by kernel_rfl
theorem one_9 : oneB Tryd.prog 9 = true := by kernel_rfl
theorem row_45 : rowB Tryd.prog 45 65 5 40 = true := by kernel_rfl
theorem sz_4 : szB Tryd.prog 4 1 = true := by kernel_rfl
end Go.Proofs.YtanhhihechakhaaDoor
set_option linter.unusedVariables false
namespace Go.Proofs.YtanhhihechakhaaDoor
open Go.RowKit Go.Proofs.YtanhhihechakhaaDoor.E
theorem agg_30 : aggB Tryd.prog 30 4 = true := by kernel_rfl
theorem bld_30_0x1 {x1 : Int} {x2 : Int} (w : World) : (Instr.build 30 #[(0, .int .i64 x1), (1, .int .i64 x2)]).run Tryd.prog w = .ok (.agg #[.int .i64 x1, .int .i64 x2, .string ⟨#[]⟩, .slice none 0 0]) w := by kernel_rfl
theorem bld_30_0x2x3 {x1 : Int} {x2 : ByteArray} {x3 : Option Addr} {x4 : Nat} {x5 : Nat} (w : World) : (Instr.build 30 #[(0, .int .i64 x1), (2, .string x2), (3, .slice x3 x4 x5)]).run Tryd.prog w = .ok (.agg #[.int .i64 x1, .int .i64 0, .string x2, .slice x3 x4 x5]) w := by kernel_rfl
theorem bsl_23_0_  (w : World) : (Instr.buildSlice 23 0 #[]).run Tryd.prog w = .ok (.slice (some ⟨w.heap.size, 0, none⟩) 0 0) (w.alloc (.cells #[] 30)) := by kernel_rfl
theorem call_16 : callB Tryd.prog 16 = true := by kernel_rfl
theorem call_29 : callB Tryd.prog 29 = true := by kernel_rfl
theorem row_23 : rowB Tryd.prog 23 30 4 56 = true := by kernel_rfl
theorem sz_30 : szB Tryd.prog 30 4 = true := by kernel_rfl
theorem zer_30 : zerL Tryd.prog 30 = some [.int .i64 0, .int .i64 0, .string ⟨#[]⟩, .slice none 0 0] := by kernel_rfl
end Go.Proofs.YtanhhihechakhaaDoor
set_option linter.unusedVariables false
namespace Go.Proofs.YtanhhihechakhaaDoor
open Go.RowKit Go.Proofs.YtanhhihechakhaaDoor.E
theorem bsl_23_2_0x1 {x1 : Int} {x2 : Int} {x3 : ByteArray} {x4 : Option Addr} {x5 : Nat} {x6 : Nat} {x7 : Int} {x8 : Int} {x9 : ByteArray} {x10 : Option Addr} {x11 : Nat} {x12 : Nat} (w : World) : (Instr.buildSlice 23 2 #[(0, .agg #[.int .i64 x1, .int .i64 x2, .string x3, .slice x4 x5 x6]), (1, .agg #[.int .i64 x7, .int .i64 x8, .string x9, .slice x10 x11 x12])]).run Tryd.prog w = .ok (.slice (some ⟨w.heap.size, 0, none⟩) 2 2) (w.alloc (.cells #[.int .i64 x1, .int .i64 x2, .string x3, .slice x4 x5 x6, .int .i64 x7, .int .i64 x8, .string x9, .slice x10 x11 x12] 30)) := by kernel_rfl
theorem bsl_51_2_0x1 {x1 : ByteArray} {x2 : ByteArray} (w : World) : (Instr.buildSlice 51 2 #[(0, .string x1), (1, .string x2)]).run Tryd.prog w = .ok (.slice (some ⟨w.heap.size, 0, none⟩) 2 2) (w.alloc (.cells #[.string x1, .string x2] 9)) := by kernel_rfl
theorem call_15 : callB Tryd.prog 15 = true := by kernel_rfl
theorem els_23 : elsB Tryd.prog 23 30 4 = true := by kernel_rfl
end Go.Proofs.YtanhhihechakhaaDoor
set_option linter.unusedVariables false
namespace Go.Proofs.YtanhhihechakhaaDoor
open Go.RowKit Go.Proofs.YtanhhihechakhaaDoor.E
theorem call_17 : callB Tryd.prog 17 = true := by kernel_rfl
theorem call_26 : callB Tryd.prog 26 = true := by kernel_rfl
theorem call_30 : callB Tryd.prog 30 = true := by kernel_rfl
theorem fld_30_0 : fldB Tryd.prog 30 0 0 = true := by kernel_rfl
theorem fld_30_1 : fldB Tryd.prog 30 1 1 = true := by kernel_rfl
theorem fld_30_2 : fldB Tryd.prog 30 2 2 = true := by kernel_rfl
theorem fld_30_3 : fldB Tryd.prog 30 3 3 = true := by kernel_rfl
theorem one_23 : oneB Tryd.prog 23 = true := by kernel_rfl
theorem one_2 : oneB Tryd.prog 2 = true := by kernel_rfl
theorem one_3 : oneB Tryd.prog 3 = true := by kernel_rfl
end Go.Proofs.YtanhhihechakhaaDoor
set_option linter.unusedVariables false
namespace Go.Proofs.YtanhhihechakhaaDoor
open Go.RowKit Go.Proofs.YtanhhihechakhaaDoor.E
theorem bsl_27_1_0 {x1 : Int} (w : World) : (Instr.buildSlice 27 1 #[(0, .int .i64 x1)]).run Tryd.prog w = .ok (.slice (some ⟨w.heap.size, 0, none⟩) 1 1) (w.alloc (.cells #[.int .i64 x1] 3)) := by kernel_rfl
theorem call_11 : callB Tryd.prog 11 = true := by kernel_rfl
theorem call_23 : callB Tryd.prog 23 = true := by kernel_rfl
theorem call_24 : callB Tryd.prog 24 = true := by kernel_rfl
theorem call_25 : callB Tryd.prog 25 = true := by kernel_rfl
theorem call_27 : callB Tryd.prog 27 = true := by kernel_rfl
theorem call_40 : callB Tryd.prog 40 = true := by kernel_rfl
theorem call_41 : callB Tryd.prog 41 = true := by kernel_rfl
theorem one_24 : oneB Tryd.prog 24 = true := by kernel_rfl
theorem one_27 : oneB Tryd.prog 27 = true := by kernel_rfl
theorem row_27 : rowB Tryd.prog 27 3 1 8 = true := by kernel_rfl
theorem sz_24 : szB Tryd.prog 24 1 = true := by kernel_rfl
theorem sz_27 : szB Tryd.prog 27 1 = true := by kernel_rfl
theorem zer_24 : zerL Tryd.prog 24 = some [.int .i64 0] := by kernel_rfl
theorem zer_27 : zerL Tryd.prog 27 = some [.slice none 0 0] := by kernel_rfl
theorem zer_3 : zerL Tryd.prog 3 = some [.int .i64 0] := by kernel_rfl
end Go.Proofs.YtanhhihechakhaaDoor
set_option linter.unusedVariables false
namespace Go.Proofs.YtanhhihechakhaaDoor
open Go.RowKit Go.Proofs.YtanhhihechakhaaDoor.E
theorem agg_129 : aggB Tryd.prog 129 3 = true := by kernel_rfl
theorem agg_141 : aggB Tryd.prog 141 36 = true := by kernel_rfl
theorem arra_141 : arraB Tryd.prog 141 12 140 3 = true := by kernel_rfl
theorem bld_129_0x1x2 {x1 : Int} {x2 : ByteArray} {x3 : ByteArray} (w : World) : (Instr.build 129 #[(0, .int .i64 x1), (1, .string x2), (2, .string x3)]).run Tryd.prog w = .ok (.agg #[.int .i64 x1, .string x2, .string x3]) w := by kernel_rfl
theorem bld_140_0x1x2 {x1 : Int} {x2 : ByteArray} {x3 : Option Addr} {x4 : Nat} {x5 : Nat} (w : World) : (Instr.build 140 #[(0, .int .i64 x1), (1, .string x2), (2, .slice x3 x4 x5)]).run Tryd.prog w = .ok (.agg #[.int .i64 x1, .string x2, .slice x3 x4 x5]) w := by kernel_rfl
theorem bld_141_0x1x2x3x4x5x6x7x8x9x10x11 {x1 : Int} {x2 : ByteArray} {x3 : Option Addr} {x4 : Nat} {x5 : Nat} {x6 : Int} {x7 : ByteArray} {x8 : Option Addr} {x9 : Nat} {x10 : Nat} {x11 : Int} {x12 : ByteArray} {x13 : Option Addr} {x14 : Nat} {x15 : Nat} {x16 : Int} {x17 : ByteArray} {x18 : Option Addr} {x19 : Nat} {x20 : Nat} {x21 : Int} {x22 : ByteArray} {x23 : Option Addr} {x24 : Nat} {x25 : Nat} {x26 : Int} {x27 : ByteArray} {x28 : Option Addr} {x29 : Nat} {x30 : Nat} {x31 : Int} {x32 : ByteArray} {x33 : Option Addr} {x34 : Nat} {x35 : Nat} {x36 : Int} {x37 : ByteArray} {x38 : Option Addr} {x39 : Nat} {x40 : Nat} {x41 : Int} {x42 : ByteArray} {x43 : Option Addr} {x44 : Nat} {x45 : Nat} {x46 : Int} {x47 : ByteArray} {x48 : Option Addr} {x49 : Nat} {x50 : Nat} {x51 : Int} {x52 : ByteArray} {x53 : Option Addr} {x54 : Nat} {x55 : Nat} {x56 : Int} {x57 : ByteArray} {x58 : Option Addr} {x59 : Nat} {x60 : Nat} (w : World) : (Instr.build 141 #[(0, .agg #[.int .i64 x1, .string x2, .slice x3 x4 x5]), (1, .agg #[.int .i64 x6, .string x7, .slice x8 x9 x10]), (2, .agg #[.int .i64 x11, .string x12, .slice x13 x14 x15]), (3, .agg #[.int .i64 x16, .string x17, .slice x18 x19 x20]), (4, .agg #[.int .i64 x21, .string x22, .slice x23 x24 x25]), (5, .agg #[.int .i64 x26, .string x27, .slice x28 x29 x30]), (6, .agg #[.int .i64 x31, .string x32, .slice x33 x34 x35]), (7, .agg #[.int .i64 x36, .string x37, .slice x38 x39 x40]), (8, .agg #[.int .i64 x41, .string x42, .slice x43 x44 x45]), (9, .agg #[.int .i64 x46, .string x47, .slice x48 x49 x50]), (10, .agg #[.int .i64 x51, .string x52, .slice x53 x54 x55]), (11, .agg #[.int .i64 x56, .string x57, .slice x58 x59 x60])]).run Tryd.prog w = .ok (.agg #[.int .i64 x1, .string x2, .slice x3 x4 x5, .int .i64 x6, .string x7, .slice x8 x9 x10, .int .i64 x11, .string x12, .slice x13 x14 x15, .int .i64 x16, .string x17, .slice x18 x19 x20, .int .i64 x21, .string x22, .slice x23 x24 x25, .int .i64 x26, .string x27, .slice x28 x29 x30, .int .i64 x31, .string x32, .slice x33 x34 x35, .int .i64 x36, .string x37, .slice x38 x39 x40, .int .i64 x41, .string x42, .slice x43 x44 x45, .int .i64 x46, .string x47, .slice x48 x49 x50, .int .i64 x51, .string x52, .slice x53 x54 x55, .int .i64 x56, .string x57, .slice x58 x59 x60]) w := by kernel_rfl
theorem bsl_138_1_0 {x1 : Int} {x2 : ByteArray} {x3 : ByteArray} (w : World) : (Instr.buildSlice 138 1 #[(0, .agg #[.int .i64 x1, .string x2, .string x3])]).run Tryd.prog w = .ok (.slice (some ⟨w.heap.size, 0, none⟩) 1 1) (w.alloc (.cells #[.int .i64 x1, .string x2, .string x3] 129)) := by kernel_rfl
theorem bsl_51_1_0 {x1 : ByteArray} (w : World) : (Instr.buildSlice 51 1 #[(0, .string x1)]).run Tryd.prog w = .ok (.slice (some ⟨w.heap.size, 0, none⟩) 1 1) (w.alloc (.cells #[.string x1] 9)) := by kernel_rfl
theorem bsl_51_12_0x1x2x3x4x5x6x7x8x9x10x11 {x1 : ByteArray} {x2 : ByteArray} {x3 : ByteArray} {x4 : ByteArray} {x5 : ByteArray} {x6 : ByteArray} {x7 : ByteArray} {x8 : ByteArray} {x9 : ByteArray} {x10 : ByteArray} {x11 : ByteArray} {x12 : ByteArray} (w : World) : (Instr.buildSlice 51 12 #[(0, .string x1), (1, .string x2), (2, .string x3), (3, .string x4), (4, .string x5), (5, .string x6), (6, .string x7), (7, .string x8), (8, .string x9), (9, .string x10), (10, .string x11), (11, .string x12)]).run Tryd.prog w = .ok (.slice (some ⟨w.heap.size, 0, none⟩) 12 12) (w.alloc (.cells #[.string x1, .string x2, .string x3, .string x4, .string x5, .string x6, .string x7, .string x8, .string x9, .string x10, .string x11, .string x12] 9)) := by kernel_rfl
theorem bsl_51_3_0x1x2 {x1 : ByteArray} {x2 : ByteArray} {x3 : ByteArray} (w : World) : (Instr.buildSlice 51 3 #[(0, .string x1), (1, .string x2), (2, .string x3)]).run Tryd.prog w = .ok (.slice (some ⟨w.heap.size, 0, none⟩) 3 3) (w.alloc (.cells #[.string x1, .string x2, .string x3] 9)) := by kernel_rfl
theorem call_79 : callB Tryd.prog 79 = true := by kernel_rfl
theorem call_80 : callB Tryd.prog 80 = true := by kernel_rfl
theorem call_84 : callB Tryd.prog 84 = true := by kernel_rfl
theorem els_138 : elsB Tryd.prog 138 129 3 = true := by kernel_rfl
theorem els_51 : elsB Tryd.prog 51 9 1 = true := by kernel_rfl
theorem fld_129_0 : fldB Tryd.prog 129 0 0 = true := by kernel_rfl
theorem fld_129_1 : fldB Tryd.prog 129 1 1 = true := by kernel_rfl
theorem fld_129_2 : fldB Tryd.prog 129 2 2 = true := by kernel_rfl
theorem fld_140_0 : fldB Tryd.prog 140 0 0 = true := by kernel_rfl
theorem fld_140_1 : fldB Tryd.prog 140 1 1 = true := by kernel_rfl
theorem fld_140_2 : fldB Tryd.prog 140 2 2 = true := by kernel_rfl
theorem one_51 : oneB Tryd.prog 51 = true := by kernel_rfl
theorem row_138 : rowB Tryd.prog 138 129 3 40 = true := by kernel_rfl
theorem sz_129 : szB Tryd.prog 129 3 = true := by kernel_rfl
theorem sz_140 : szB Tryd.prog 140 3 = true := by kernel_rfl
theorem sz_141 : szB Tryd.prog 141 36 = true := by kernel_rfl
theorem zer_129 : zerL Tryd.prog 129 = some [.int .i64 0, .string ⟨#[]⟩, .string ⟨#[]⟩] := by kernel_rfl
theorem zer_140 : zerL Tryd.prog 140 = some [.int .i64 0, .string ⟨#[]⟩, .slice none 0 0] := by kernel_rfl
theorem zer_141 : zerL Tryd.prog 141 = some [.int .i64 0, .string ⟨#[]⟩, .slice none 0 0, .int .i64 0, .string ⟨#[]⟩, .slice none 0 0, .int .i64 0, .string ⟨#[]⟩, .slice none 0 0, .int .i64 0, .string ⟨#[]⟩, .slice none 0 0, .int .i64 0, .string ⟨#[]⟩, .slice none 0 0, .int .i64 0, .string ⟨#[]⟩, .slice none 0 0, .int .i64 0, .string ⟨#[]⟩, .slice none 0 0, .int .i64 0, .string ⟨#[]⟩, .slice none 0 0, .int .i64 0, .string ⟨#[]⟩, .slice none 0 0, .int .i64 0, .string ⟨#[]⟩, .slice none 0 0, .int .i64 0, .string ⟨#[]⟩, .slice none 0 0, .int .i64 0, .string ⟨#[]⟩, .slice none 0 0] := by kernel_rfl
end Go.Proofs.YtanhhihechakhaaDoor
set_option linter.unusedVariables false
set_option linter.unusedSimpArgs false
namespace Go.Proofs.YtanhhihechakhaaDoor
open Go.RowKit Go.Proofs.YtanhhihechakhaaDoor.E Go.Proofs.YtanhhihechakhaaDoor.OpsP
theorem bes_yes {p : Int} {c : UInt8} (h : ((c.toNat : Int) == 121) = true) : Value.int .i64 p = .int .i64 (bes p c) := by
 have h1 : c.toNat = 121 := by have := eq_of_beq h; omega
 have h2 : c = 121 := UInt8.toNat_inj.1 h1
 simp [bes, h2]
theorem bes_no {p : Int} {c : UInt8} (h : ((c.toNat : Int) == 121) = false) : Value.int .i64 (p - 1) = .int .i64 (bes p c) := by
 have h2 : ¬ c = 121 := by rintro rfl; simp at h
 simp [bes, h2]
def cellsOf (l : List OpT) : List Value := l.flatMap fun o => [.int .i64 o.1, .string ⟨o.2.1.toArray⟩, .string ⟨o.2.2.toArray⟩]
def pre (i : Nat) : List OpT := (rowsL.take i).flatMap fun r => r.2.2.map fun n => (r.1, r.2.1, n)
theorem pre_succ {i : Nat} {p : Int} {ty : List UInt8} {nms : List (List UInt8)} (h : rowsL[i]? = some (p, ty, nms)) : pre (i + 1) = pre i ++ (nms.take nms.length).map fun n => (p, ty, n) := by
 unfold pre
 rw [List.take_add_one, h]
 simp
theorem row_snoc {i j : Nat} {p : Int} {ty nm : List UInt8} {nms : List (List UInt8)} {v : Value} {e : Nat} (h : nms[j]? = some nm) :
    Res.row v e 3 (pre i ++ (nms.take (j + 1)).map fun n => (p, ty, n)).length (cellsOf (pre i ++ (nms.take (j + 1)).map fun n => (p, ty, n))) = Res.row v e 3 ((pre i ++ (nms.take j).map fun n => (p, ty, n)).length + 1) (cellsOf (pre i ++ (nms.take j).map fun n => (p, ty, n)) ++ [.int .i64 p, .string ⟨ty.toArray⟩, .string ⟨nm.toArray⟩]) := by
 rw [List.take_add_one, h]
 simp [cellsOf, List.flatMap_append, Nat.add_assoc]
theorem names_cell {h : Hp} {g j t : Nat} {nms : List (List UInt8)} {nm : List UInt8} (hg : h g = some (.cells (nms.map fun n => Value.string ⟨n.toArray⟩).toArray t (0, 0))) (hn : nms[j]? = some nm) : h.cell ⟨g, 0 + (j : Int).toNat * 1, none⟩ = some (.string ⟨nm.toArray⟩) := by
 simp [Hp.cell, hg, hn]
theorem fld_cell {h : Hp} {g off t : Nat} {cs : List Value} {v : Value} (hg : h g = some (.cells cs.toArray t (0, 0))) (hc : cs[off]? = some v) : h.cell ⟨g, off, none⟩ = some v := by
 simp [Hp.cell, hg, hc]
theorem nms12 {i : Nat} {p : Int} {ty : List UInt8} {nms : List (List UInt8)} (h : rowsL[i]? = some (p, ty, nms)) : nms.length ≤ 12 := by
 have : ∀ r ∈ rowsL, r.2.2.length ≤ 12 := by decide
 exact this _ (List.mem_of_getElem? h)
theorem room3 {i j : Nat} {p : Int} {ty : List UInt8} {nms : List (List UInt8)} (h : rowsL[i]? = some (p, ty, nms)) (hj : j < nms.length) : ((pre i ++ (nms.take j).map fun n => (p, ty, n)).length + 1) * 40 ≤ 140737488355328 := by
 have h1 : nms.length ≤ 12 := by
  have : ∀ r ∈ rowsL, r.2.2.length ≤ 12 := by decide
  exact this _ (List.mem_of_getElem? h)
 have h2 : (pre i).length ≤ 26 := by
  have h4 : i ≤ 12 := by have := (List.getElem?_eq_some_iff.1 h).1; have h5 : rowsL.length = 12 := rfl; omega
  have : ∀ i, i ≤ 12 → (pre i).length ≤ 26 := by decide
  exact this i h4
 have h3 : ((nms.take j).map fun n => (p, ty, n)).length ≤ 12 := by simp; omega
 simp only [List.length_append]
 omega
theorem cellsOf_get {l : List OpT} {i : Nat} {p : Int} {ty nm : List UInt8} (ho : l[i]? = some (p, ty, nm)) {j : Nat} {u : Value} (hj : ([.int .i64 p, .string ⟨ty.toArray⟩, .string ⟨nm.toArray⟩] : List Value)[j]? = some u) : (cellsOf l)[i * 3 + j]? = some u := by
 induction l generalizing i with
 | nil => simp at ho
 | cons x l ih =>
  cases i with
  | zero =>
   simp only [List.getElem?_cons_zero, Option.some.injEq] at ho
   subst ho
   have hlt : j < 3 := (List.getElem?_eq_some_iff.1 hj).1
   simp only [cellsOf, List.flatMap_cons, Nat.zero_mul, Nat.zero_add]
   rw [List.getElem?_append_left (by simpa using hlt)]
   exact hj
  | succ i =>
   have := ih (by simpa using ho)
   simp only [cellsOf, List.flatMap_cons]
   rw [List.getElem?_append_right (by simp; omega)]
   simpa [cellsOf, show (i + 1) * 3 + j - 3 = i * 3 + j by omega] using this
def retF : Option OpT → Value
 | some (p, ty, nm) => .tuple #[.agg #[.int .i64 p, .string ⟨ty.toArray⟩, .string ⟨nm.toArray⟩], .bool true]
 | none => .tuple #[.agg #[.int .i64 0, .string ⟨#[]⟩, .string ⟨#[]⟩], .bool false]
def tup4 (x : Int × Int × Int × Bool) : Value := .tuple #[.int .i64 x.1, .int .i64 x.2.1, .int .i64 x.2.2.1, .bool x.2.2.2]
def tup3 (x : Int × Int × Bool) : Value := .tuple #[.int .i64 x.1, .int .i64 x.2.1, .bool x.2.2]
theorem opsL_len : opsL.length = 26 := by decide
theorem opsL_facts : ∀ o ∈ opsL, 0 < o.1 ∧ o.1 ≤ 2000 := by decide
theorem findL_facts {L : List UInt8} {k : Nat} {p : Int} {ty nm : List UInt8} (h : findL L k = some (p, ty, nm)) : 0 ≤ p ∧ p ≤ 2000 ∧ ty.length = k := by
 have h1 := opsL_facts _ (List.mem_of_find?_eq_some h)
 have h2 := List.find?_some h
 simp only [hit, Bool.and_eq_true, beq_iff_eq] at h2
 exact ⟨by have := h1.1; simp only at this; omega, h1.2, by have := h2.2; omega⟩
section
variable {L : List UInt8} {k : Int} {i : Nat} {p : Int} {ty nm : List UInt8}
theorem take_snoc_false (hpre : ∀ o ∈ opsL.take i, hit L k o = false) (ho : opsL[i]? = some (p, ty, nm)) (h1 : hit L k (p, ty, nm) = false) : ∀ o ∈ opsL.take (i + 1), hit L k o = false := by
 intro o hm
 rw [List.take_add_one, ho] at hm
 rcases List.mem_append.1 hm with hm | hm
 · exact hpre o hm
 · have : o = (p, ty, nm) := by simpa using hm
   rw [this]
   exact h1
theorem find_no1 (hpre : ∀ o ∈ opsL.take i, hit L k o = false) (ho : opsL[i]? = some (p, ty, nm)) (hg : (!((⟨nm.toArray⟩ : ByteArray).data.toList == L)) = true) : ∀ o ∈ opsL.take (i + 1), hit L k o = false :=
 take_snoc_false hpre ho (by simp at hg; simp [hit, hg])
theorem find_no2 (hpre : ∀ o ∈ opsL.take i, hit L k o = false) (ho : opsL[i]? = some (p, ty, nm)) (hc : (((⟨ty.toArray⟩ : ByteArray).size : Int) != k) = true) : ∀ o ∈ opsL.take (i + 1), hit L k o = false :=
 take_snoc_false hpre ho (by
  have h1 : ¬ (ty.length : Int) = k := by simpa [ByteArray.size] using hc
  simp [hit, h1])
theorem find_yes (hpre : ∀ o ∈ opsL.take i, hit L k o = false) (ho : opsL[i]? = some (p, ty, nm)) (hg : (!((⟨nm.toArray⟩ : ByteArray).data.toList == L)) = false) (hc : (((⟨ty.toArray⟩ : ByteArray).size : Int) != k) = false) :
    Ending.returned (.tuple #[.agg [.int .i64 p, .string ⟨ty.toArray⟩, .string ⟨nm.toArray⟩].toArray, .bool (decide (p > 0))]) = .returned (retF (findL L k)) := by
 have h1 : hit L k (p, ty, nm) = true := by
  have h2 : nm = L := by simpa using hg
  have h3 : (ty.length : Int) = k := by simpa [ByteArray.size] using hc
  simp [hit, h2, h3]
 have h4 : findL L k = some (p, ty, nm) := by
  unfold findL
  rw [List.find?_eq_some_iff_getElem]
  obtain ⟨hlt, he⟩ := List.getElem?_eq_some_iff.1 ho
  refine ⟨h1, i, hlt, he, fun j hj => ?_⟩
  have := hpre opsL[j] (List.mem_take_iff_getElem.2 ⟨j, by omega, rfl⟩)
  simp [this]
 have h5 := (opsL_facts _ (List.mem_of_getElem? ho)).1
 simp only at h5
 rw [h4]
 simp [retF, h5]
theorem find_miss (hpre : ∀ o ∈ opsL.take i, hit L k o = false) (hi : i ≤ 26) (hc : decide ((i : Int) < 26) = false) : Ending.returned (.tuple #[.agg [.int .i64 0, .string ⟨#[]⟩, .string ⟨#[]⟩].toArray, .bool (decide ((0 : Int) > 0))]) = .returned (retF (findL L k)) := by
 have h1 : i = 26 := by have := of_decide_eq_false hc; omega
 subst h1
 have h4 : findL L k = none := by
  unfold findL
  rw [List.find?_eq_none]
  intro o ho
  have := hpre o (by rwa [List.take_of_length_le (by decide)])
  simp [this]
 rw [h4]
 rfl
end
set_option maxRecDepth 100000 in
theorem beside_c (p : Int) (ty nm : ByteArray) (c : UInt8) (h : Hp) (h1 : 0 ≤ p) (h2 : p ≤ 2000) : C0 Tryd.prog 80 [.agg #[.int .i64 p, .string ty, .string nm], .int .u8 (c.toNat : Int)] h (.int .i64 (bes p c)) := by
 refine enter0 Tryd.func80 rfl rfl rfl (fun w => ?_)
 refine cy_seq ?_
 refine cy_region ?_
 refine sy_box rfl rfl rfl rfl (fun b2 hb2 hM2 => ?_) (by simp)
 refine sy_assign rfl rfl rfl ?_
 refine sy_nil rfl ?_
 refine ny_next ?_
 refine cy_seq ?_
 refine cy_seq ?_
 refine cy_region ?_
 refine sy_move rfl rfl rfl ?_
 refine sy_cmp rfl rfl rfl rfl rfl ?_
 refine sy_nil rfl ?_
 refine ny_next ?_
 refine cy_cond rfl (fun hc6 => ?_) (fun hc6 => ?_)
 · refine cy_seq ?_
   refine cy_region ?_
   refine sy_field fld_129_0 rfl rfl rfl ?_
   first | refine sy_ldr 0 one_3 rfl rfl rfl rfl rfl ?_ | refine sy_ldr 1 one_3 rfl rfl rfl rfl rfl ?_ | refine sy_ldr 2 one_3 rfl rfl rfl rfl rfl ?_
   refine sy_assign rfl rfl rfl ?_
   refine sy_nil rfl ?_
   refine ny_next ?_
   refine cy_ret ?_
   refine ny_thenR ?_
   refine ny_finR (res1 rfl rfl) (fun w hs => ⟨?_, hs.frm⟩)
   first | rw [bes_yes hc6] | rw [bes_no hc6]
 · refine cy_skip ?_
   refine ny_next ?_
   refine cy_seq ?_
   refine cy_region ?_
   refine sy_field fld_129_0 rfl rfl rfl ?_
   first | refine sy_ldr 0 one_3 rfl rfl rfl rfl rfl ?_ | refine sy_ldr 1 one_3 rfl rfl rfl rfl rfl ?_ | refine sy_ldr 2 one_3 rfl rfl rfl rfl rfl ?_
   refine sy_subi rfl rfl rfl (by omega) (by omega) rfl rfl ?_
   refine sy_assign rfl rfl rfl ?_
   refine sy_nil rfl ?_
   refine ny_next ?_
   refine cy_ret ?_
   refine ny_finR (res1 rfl rfl) (fun w hs => ⟨?_, hs.frm⟩)
   first | rw [bes_yes hc6] | rw [bes_no hc6]
set_option maxRecDepth 100000 in
theorem all_c (h : Hp) : CX Tryd.prog 84 [] h (fun x : Nat × Nat => .slice (some ⟨x.1, 0, none⟩) 26 x.2) (fun x h' => ∀ j u, (cellsOf opsL)[j]? = some u → h'.cell ⟨x.1, j, none⟩ = some u) := by
 refine enterX Tryd.func84 rfl rfl rfl (fun w => ?_)
 refine cy_seq ?_
 refine cy_region ?_
 refine sy_assign rfl rfl rfl ?_
 refine sy_nil rfl ?_
 refine ny_next ?_
 refine cy_seq ?_
 refine cy_region ?_
 refine sy_buildSlice rfl (fun w => bsl_51_1_0 w) rfl rfl (fun b7 hb7 hM7 => ?_) (by simp)
 refine sy_build rfl (fun w => bld_140_0x1x2 w) rfl rfl ?_
 refine sy_buildSlice rfl (fun w => bsl_51_1_0 w) rfl rfl (fun b9 hb9 hM9 => ?_) (by simp)
 refine sy_build rfl (fun w => bld_140_0x1x2 w) rfl rfl ?_
 refine sy_buildSlice rfl (fun w => bsl_51_1_0 w) rfl rfl (fun b11 hb11 hM11 => ?_) (by simp)
 refine sy_build rfl (fun w => bld_140_0x1x2 w) rfl rfl ?_
 refine sy_buildSlice rfl (fun w => bsl_51_1_0 w) rfl rfl (fun b13 hb13 hM13 => ?_) (by simp)
 refine sy_build rfl (fun w => bld_140_0x1x2 w) rfl rfl ?_
 refine sy_buildSlice rfl (fun w => bsl_51_1_0 w) rfl rfl (fun b15 hb15 hM15 => ?_) (by simp)
 refine sy_build rfl (fun w => bld_140_0x1x2 w) rfl rfl ?_
 refine sy_buildSlice rfl (fun w => bsl_51_1_0 w) rfl rfl (fun b17 hb17 hM17 => ?_) (by simp)
 refine sy_build rfl (fun w => bld_140_0x1x2 w) rfl rfl ?_
 refine sy_buildSlice rfl (fun w => bsl_51_1_0 w) rfl rfl (fun b19 hb19 hM19 => ?_) (by simp)
 refine sy_build rfl (fun w => bld_140_0x1x2 w) rfl rfl ?_
 refine sy_buildSlice rfl (fun w => bsl_51_12_0x1x2x3x4x5x6x7x8x9x10x11 w) rfl rfl (fun b21 hb21 hM21 => ?_) (by simp)
 refine sy_build rfl (fun w => bld_140_0x1x2 w) rfl rfl ?_
 refine sy_buildSlice rfl (fun w => bsl_51_2_0x1 w) rfl rfl (fun b23 hb23 hM23 => ?_) (by simp)
 refine sy_build rfl (fun w => bld_140_0x1x2 w) rfl rfl ?_
 refine sy_buildSlice rfl (fun w => bsl_51_3_0x1x2 w) rfl rfl (fun b25 hb25 hM25 => ?_) (by simp)
 refine sy_build rfl (fun w => bld_140_0x1x2 w) rfl rfl ?_
 refine sy_buildSlice rfl (fun w => bsl_51_1_0 w) rfl rfl (fun b27 hb27 hM27 => ?_) (by simp)
 refine sy_build rfl (fun w => bld_140_0x1x2 w) rfl rfl ?_
 refine sy_buildSlice rfl (fun w => bsl_51_1_0 w) rfl rfl (fun b29 hb29 hM29 => ?_) (by simp)
 refine sy_build rfl (fun w => bld_140_0x1x2 w) rfl rfl ?_
 refine sy_build rfl (fun w => bld_141_0x1x2x3x4x5x6x7x8x9x10x11 w) rfl rfl ?_
 refine sy_alloc zer_141 rfl rfl (fun b1 hb1 hM1 => ?_) (by simp)
 first | refine sy_stl 0 sz_141 rfl rfl rfl rfl rfl rfl rfl rfl ?_ | refine sy_stl 1 sz_141 rfl rfl rfl rfl rfl rfl rfl rfl ?_ | refine sy_stl 2 sz_141 rfl rfl rfl rfl rfl rfl rfl rfl ?_ | refine sy_stl 3 sz_141 rfl rfl rfl rfl rfl rfl rfl rfl ?_
 refine sy_nil rfl ?_
 refine ny_next ?_
 refine cy_seq ?_
 refine cy_frzAll (fun h' hle hF => ?_)
 have hidx : ∀ i : Nat, i < 12 → ∃ (p : Int) (ty : List UInt8) (g : Nat) (nms : List (List UInt8)), rowsL[i]? = some (p, ty, nms) ∧
     sliceO ((i : Int).toNat * 3) 3 [.int .i64 1200, .string { data := #[120, 102, 120] }, .slice (some ⟨b7, 0, none⟩) 1 1, .int .i64 1200, .string { data := #[102, 120] }, .slice (some ⟨b9, 0, none⟩) 1 1, .int .i64 1150, .string { data := #[120, 102, 120] }, .slice (some ⟨b11, 0, none⟩) 1 1, .int .i64 1100, .string { data := #[120, 102, 121] }, .slice (some ⟨b13, 0, none⟩) 1 1, .int .i64 1050, .string { data := #[120, 102, 121] }, .slice (some ⟨b15, 0, none⟩) 1 1, .int .i64 1000, .string { data := #[120, 102, 121] }, .slice (some ⟨b17, 0, none⟩) 1 1, .int .i64 900, .string { data := #[102, 121] }, .slice (some ⟨b19, 0, none⟩) 1 1, .int .i64 700, .string { data := #[120, 102, 120] }, .slice (some ⟨b21, 0, none⟩) 12 12, .int .i64 500, .string { data := #[121, 102, 120] }, .slice (some ⟨b23, 0, none⟩) 2 2, .int .i64 400, .string { data := #[121, 102, 120] }, .slice (some ⟨b25, 0, none⟩) 3 3, .int .i64 200, .string { data := #[102, 121] }, .slice (some ⟨b27, 0, none⟩) 1 1, .int .i64 190, .string { data := #[120, 102, 120] }, .slice (some ⟨b29, 0, none⟩) 1 1] = some [.int .i64 p, .string ⟨ty.toArray⟩, .slice (some ⟨g, 0, none⟩) nms.length nms.length] ∧ h' g = some (.cells (nms.map fun n => Value.string ⟨n.toArray⟩).toArray 9 (0, 0)) := fun i hi =>
  match i, hi with
  | 0, _ => ⟨_, _, _, _, rfl, rfl, hF _ _ (by repeat (first | exact .head _ | apply List.Mem.tail))⟩
  | 1, _ => ⟨_, _, _, _, rfl, rfl, hF _ _ (by repeat (first | exact .head _ | apply List.Mem.tail))⟩
  | 2, _ => ⟨_, _, _, _, rfl, rfl, hF _ _ (by repeat (first | exact .head _ | apply List.Mem.tail))⟩
  | 3, _ => ⟨_, _, _, _, rfl, rfl, hF _ _ (by repeat (first | exact .head _ | apply List.Mem.tail))⟩
  | 4, _ => ⟨_, _, _, _, rfl, rfl, hF _ _ (by repeat (first | exact .head _ | apply List.Mem.tail))⟩
  | 5, _ => ⟨_, _, _, _, rfl, rfl, hF _ _ (by repeat (first | exact .head _ | apply List.Mem.tail))⟩
  | 6, _ => ⟨_, _, _, _, rfl, rfl, hF _ _ (by repeat (first | exact .head _ | apply List.Mem.tail))⟩
  | 7, _ => ⟨_, _, _, _, rfl, rfl, hF _ _ (by repeat (first | exact .head _ | apply List.Mem.tail))⟩
  | 8, _ => ⟨_, _, _, _, rfl, rfl, hF _ _ (by repeat (first | exact .head _ | apply List.Mem.tail))⟩
  | 9, _ => ⟨_, _, _, _, rfl, rfl, hF _ _ (by repeat (first | exact .head _ | apply List.Mem.tail))⟩
  | 10, _ => ⟨_, _, _, _, rfl, rfl, hF _ _ (by repeat (first | exact .head _ | apply List.Mem.tail))⟩
  | 11, _ => ⟨_, _, _, _, rfl, rfl, hF _ _ (by repeat (first | exact .head _ | apply List.Mem.tail))⟩
  | i + 12, h => absurd h (by omega)
 have h31 : h' b1 = some (.cells [.int .i64 1200, .string { data := #[120, 102, 120] }, .slice (some ⟨b7, 0, none⟩) 1 1, .int .i64 1200, .string { data := #[102, 120] }, .slice (some ⟨b9, 0, none⟩) 1 1, .int .i64 1150, .string { data := #[120, 102, 120] }, .slice (some ⟨b11, 0, none⟩) 1 1, .int .i64 1100, .string { data := #[120, 102, 121] }, .slice (some ⟨b13, 0, none⟩) 1 1, .int .i64 1050, .string { data := #[120, 102, 121] }, .slice (some ⟨b15, 0, none⟩) 1 1, .int .i64 1000, .string { data := #[120, 102, 121] }, .slice (some ⟨b17, 0, none⟩) 1 1, .int .i64 900, .string { data := #[102, 121] }, .slice (some ⟨b19, 0, none⟩) 1 1, .int .i64 700, .string { data := #[120, 102, 120] }, .slice (some ⟨b21, 0, none⟩) 12 12, .int .i64 500, .string { data := #[121, 102, 120] }, .slice (some ⟨b23, 0, none⟩) 2 2, .int .i64 400, .string { data := #[121, 102, 120] }, .slice (some ⟨b25, 0, none⟩) 3 3, .int .i64 200, .string { data := #[102, 121] }, .slice (some ⟨b27, 0, none⟩) 1 1, .int .i64 190, .string { data := #[120, 102, 120] }, .slice (some ⟨b29, 0, none⟩) 1 1].toArray 141 (0, 0)) := hF _ _ (.head _)
 clear hF
 refine cy_region ?_
 refine sy_assign rfl rfl rfl ?_
 refine sy_nil rfl ?_
 refine ny_next ?_
 refine cy_seq ?_
 refine cy_seq ?_
 refine cy_region ?_
 refine sy_ldah agg_141 (vs := [.int .i64 1200, .string { data := #[120, 102, 120] }, .slice (some ⟨b7, 0, none⟩) 1 1, .int .i64 1200, .string { data := #[102, 120] }, .slice (some ⟨b9, 0, none⟩) 1 1, .int .i64 1150, .string { data := #[120, 102, 120] }, .slice (some ⟨b11, 0, none⟩) 1 1, .int .i64 1100, .string { data := #[120, 102, 121] }, .slice (some ⟨b13, 0, none⟩) 1 1, .int .i64 1050, .string { data := #[120, 102, 121] }, .slice (some ⟨b15, 0, none⟩) 1 1, .int .i64 1000, .string { data := #[120, 102, 121] }, .slice (some ⟨b17, 0, none⟩) 1 1, .int .i64 900, .string { data := #[102, 121] }, .slice (some ⟨b19, 0, none⟩) 1 1, .int .i64 700, .string { data := #[120, 102, 120] }, .slice (some ⟨b21, 0, none⟩) 12 12, .int .i64 500, .string { data := #[121, 102, 120] }, .slice (some ⟨b23, 0, none⟩) 2 2, .int .i64 400, .string { data := #[121, 102, 120] }, .slice (some ⟨b25, 0, none⟩) 3 3, .int .i64 200, .string { data := #[102, 121] }, .slice (some ⟨b27, 0, none⟩) 1 1, .int .i64 190, .string { data := #[120, 102, 120] }, .slice (some ⟨b29, 0, none⟩) 1 1]) rfl rfl (fun j u hj => by simp only [Nat.zero_add, Hp.cell, h31]; simpa using hj) rfl rfl ?_
 refine sy_move rfl rfl rfl ?_
 refine sy_nil rfl ?_
 refine ny_next ?_
 refine cy_block ?_
 refine cy_weak (f' := [(2, .slice none 0 0), (32, .agg [.int .i64 1200, .string { data := #[120, 102, 120] }, .slice (some ⟨b7, 0, none⟩) 1 1, .int .i64 1200, .string { data := #[102, 120] }, .slice (some ⟨b9, 0, none⟩) 1 1, .int .i64 1150, .string { data := #[120, 102, 120] }, .slice (some ⟨b11, 0, none⟩) 1 1, .int .i64 1100, .string { data := #[120, 102, 121] }, .slice (some ⟨b13, 0, none⟩) 1 1, .int .i64 1050, .string { data := #[120, 102, 121] }, .slice (some ⟨b15, 0, none⟩) 1 1, .int .i64 1000, .string { data := #[120, 102, 121] }, .slice (some ⟨b17, 0, none⟩) 1 1, .int .i64 900, .string { data := #[102, 121] }, .slice (some ⟨b19, 0, none⟩) 1 1, .int .i64 700, .string { data := #[120, 102, 120] }, .slice (some ⟨b21, 0, none⟩) 12 12, .int .i64 500, .string { data := #[121, 102, 120] }, .slice (some ⟨b23, 0, none⟩) 2 2, .int .i64 400, .string { data := #[121, 102, 120] }, .slice (some ⟨b25, 0, none⟩) 3 3, .int .i64 200, .string { data := #[102, 121] }, .slice (some ⟨b27, 0, none⟩) 1 1, .int .i64 190, .string { data := #[120, 102, 120] }, .slice (some ⟨b29, 0, none⟩) 1 1].toArray), (33, .int .i64 0)]) ⟨rfl, rfl, rfl, trivial⟩ ?_
 refine cy_nilRow 129 3 ?_
 clear h31
 generalize ([.int .i64 1200, .string { data := #[120, 102, 120] }, .slice (some ⟨b7, 0, none⟩) 1 1, .int .i64 1200, .string { data := #[102, 120] }, .slice (some ⟨b9, 0, none⟩) 1 1, .int .i64 1150, .string { data := #[120, 102, 120] }, .slice (some ⟨b11, 0, none⟩) 1 1, .int .i64 1100, .string { data := #[120, 102, 121] }, .slice (some ⟨b13, 0, none⟩) 1 1, .int .i64 1050, .string { data := #[120, 102, 121] }, .slice (some ⟨b15, 0, none⟩) 1 1, .int .i64 1000, .string { data := #[120, 102, 121] }, .slice (some ⟨b17, 0, none⟩) 1 1, .int .i64 900, .string { data := #[102, 121] }, .slice (some ⟨b19, 0, none⟩) 1 1, .int .i64 700, .string { data := #[120, 102, 120] }, .slice (some ⟨b21, 0, none⟩) 12 12, .int .i64 500, .string { data := #[121, 102, 120] }, .slice (some ⟨b23, 0, none⟩) 2 2, .int .i64 400, .string { data := #[121, 102, 120] }, .slice (some ⟨b25, 0, none⟩) 3 3, .int .i64 200, .string { data := #[102, 121] }, .slice (some ⟨b27, 0, none⟩) 1 1, .int .i64 190, .string { data := #[120, 102, 120] }, .slice (some ⟨b29, 0, none⟩) 1 1] : List Value) = CS at hidx ⊢
 refine cy_loop (ι := Nat × Value) (fun x => x.1 ≤ 12) (fun x => 12 - x.1) (fun x => [(2, x.2), (32, .agg CS.toArray), (33, .int .i64 (x.1 : Int))]) (fun _ => h') (fun x => [.row x.2 129 3 (pre x.1).length (cellsOf (pre x.1))]) (0, .slice none 0 0) [0] (Nat.zero_le _) ⟨rfl, rfl, rfl, trivial⟩ rfl rfl ?_
 rintro ⟨i, v⟩ hi
 simp only at hi ⊢
 refine cy_seq ?_
 refine cy_region ?_
 refine sy_cmp rfl rfl rfl rfl rfl ?_
 refine sy_nil rfl ?_
 refine ny_next ?_
 refine cy_seq ?_
 refine cy_cond rfl (fun hc34 => ?_) (fun hc34 => ?_)
 · have hlt : i < 12 := by have := of_decide_eq_true hc34; omega
   obtain ⟨p, ty, g, nms, hrow, hix, hg⟩ := hidx i hlt
   refine cy_skip ?_
   refine ny_next ?_
   refine cy_seq ?_
   refine cy_block ?_
   refine cy_seq ?_
   refine cy_region ?_
   refine sy_idxarr (ik := .i64) (i := (i : Int)) arra_141 rfl rfl (by omega) (by omega) hix rfl rfl ?_
   refine sy_alloc zer_140 rfl rfl (fun b4 hb4 hM4 => ?_) (by simp)
   first | refine sy_stl 0 sz_140 rfl rfl rfl rfl rfl rfl rfl rfl ?_ | refine sy_stl 1 sz_140 rfl rfl rfl rfl rfl rfl rfl rfl ?_ | refine sy_stl 2 sz_140 rfl rfl rfl rfl rfl rfl rfl rfl ?_ | refine sy_stl 3 sz_140 rfl rfl rfl rfl rfl rfl rfl rfl ?_
   refine sy_nil rfl ?_
   refine ny_next ?_
   refine cy_seq ?_
   refine cy_region ?_
   refine sy_field fld_140_2 rfl rfl rfl ?_
   first | refine sy_ldr 0 one_51 rfl rfl rfl rfl rfl ?_ | refine sy_ldr 1 one_51 rfl rfl rfl rfl rfl ?_ | refine sy_ldr 2 one_51 rfl rfl rfl rfl rfl ?_ | refine sy_ldr 3 one_51 rfl rfl rfl rfl rfl ?_
   refine sy_len rfl (len_slice Tryd.underlying51 _ _ _) rfl rfl ?_
   refine sy_move rfl rfl rfl ?_
   refine sy_nil rfl ?_
   refine ny_next ?_
   refine cy_block ?_
   refine cy_loop (ι := Nat × Value) (fun x => x.1 ≤ nms.length) (fun x => nms.length - x.1) (fun x => [(2, x.2), (4, .pointer (some ⟨b4, 0, none⟩)), (32, .agg CS.toArray), (33, .int .i64 (i : Int)), (37, .slice (some ⟨g, 0, none⟩) nms.length nms.length), (38, .int .i64 (nms.length : Int)), (39, .int .i64 (x.1 : Int))]) (fun _ => h')
    (fun x => [.blk b4 (.cells [.int .i64 p, .string ⟨ty.toArray⟩, .slice (some ⟨g, 0, none⟩) nms.length nms.length].toArray 140 (0, 0)), .row x.2 129 3 (pre i ++ (nms.take x.1).map fun n => (p, ty, n)).length (cellsOf (pre i ++ (nms.take x.1).map fun n => (p, ty, n)))]) (0, v) [0, 0] (Nat.zero_le _) ⟨rfl, rfl, rfl, rfl, rfl, rfl, rfl, trivial⟩ rfl (by simp [selR, pickR]) ?_
   rintro ⟨j, v'⟩ hj
   simp only at hj ⊢
   refine cy_seq ?_
   refine cy_region ?_
   refine sy_cmp rfl rfl rfl rfl rfl ?_
   refine sy_nil rfl ?_
   refine ny_next ?_
   refine cy_seq ?_
   refine cy_cond rfl (fun hc40 => ?_) (fun hc40 => ?_)
   · have hjl : j < nms.length := by simpa using hc40
     obtain ⟨nm, hnm⟩ : ∃ nm, nms[j]? = some nm := ⟨_, List.getElem?_eq_getElem hjl⟩
     refine cy_skip ?_
     refine ny_next ?_
     refine cy_seq ?_
     refine cy_block ?_
     refine cy_seq ?_
     refine cy_region ?_
     refine sy_idxS (ik := .i64) (i := (j : Int)) els_51 rfl rfl (by omega) (by omega) rfl rfl ?_
     refine sy_ldh one_9 rfl (names_cell hg hnm) rfl rfl ?_
     refine sy_assign rfl rfl rfl ?_
     refine sy_nil rfl ?_
     refine ny_next ?_
     refine cy_region ?_
     refine sy_move rfl rfl rfl ?_
     refine sy_field fld_140_0 rfl rfl rfl ?_
     first | refine sy_ldr 0 one_3 rfl rfl rfl rfl rfl ?_ | refine sy_ldr 1 one_3 rfl rfl rfl rfl rfl ?_ | refine sy_ldr 2 one_3 rfl rfl rfl rfl rfl ?_ | refine sy_ldr 3 one_3 rfl rfl rfl rfl rfl ?_
     refine sy_field fld_140_1 rfl rfl rfl ?_
     first | refine sy_ldr 0 one_9 rfl rfl rfl rfl rfl ?_ | refine sy_ldr 1 one_9 rfl rfl rfl rfl rfl ?_ | refine sy_ldr 2 one_9 rfl rfl rfl rfl rfl ?_ | refine sy_ldr 3 one_9 rfl rfl rfl rfl rfl ?_
     refine sy_move rfl rfl rfl ?_
     refine sy_build rfl (fun w => bld_129_0x1x2 w) rfl rfl ?_
     refine sy_buildSlice rfl (fun w => bsl_138_1_0 w) rfl rfl (fun b50 hb50 hM50 => ?_) (by simp)
     refine sy_append 2 0 row_138 (by decide) rfl rfl rfl rfl rfl rfl (room3 hrow hjl) (by have := room3 hrow hjl; simp only [maxLen]; omega) rfl rfl (fun v51 => ?_)
     refine sy_assign rfl rfl rfl ?_
     refine sy_nil rfl ?_
     refine ny_blockN ?_
     refine ny_next ?_
     refine cy_region ?_
     refine sy_addi (z := ((j + 1 : Nat) : Int)) rfl rfl (by omega) (by omega) (by have := nms12 hrow; omega) rfl rfl ?_
     refine sy_move rfl rfl rfl ?_
     refine sy_nil rfl ?_
     refine ny_round (j + 1, v51) [2, 0] ?_ ?_ ⟨rfl, rfl, rfl, rfl, rfl, rfl, rfl, trivial⟩ rfl ?_
     · exact hjl
     · show nms.length - (j + 1) < nms.length - j
       omega
     · show _ = some [_, Res.row v51 _ _ _ _]
       rw [row_snoc hnm]
       rfl
   · have hje : j = nms.length := by simp at hc40; omega
     subst hje
     refine cy_exit ?_
     refine ny_thenE ?_
     refine ny_thenE ?_
     refine ny_blockX ?_
     refine ny_blockN ?_
     refine ny_next ?_
     refine cy_region ?_
     refine sy_addi (z := ((i + 1 : Nat) : Int)) rfl rfl (by omega) (by omega) (by omega) rfl rfl ?_
     refine sy_move rfl rfl rfl ?_
     refine sy_nil rfl ?_
     refine ny_round (i + 1, v') [1] ?_ ?_ ⟨rfl, rfl, rfl, trivial⟩ rfl ?_
     · show i + 1 ≤ 12
       omega
     · show 12 - (i + 1) < 12 - i
       omega
     · rw [pre_succ hrow]
       rfl
 · refine cy_exit ?_
   refine ny_thenE ?_
   refine ny_thenE ?_
   refine ny_blockX ?_
   refine ny_next ?_
   refine cy_seq ?_
   refine cy_region ?_
   refine sy_move rfl rfl rfl ?_
   refine sy_assign rfl rfl rfl ?_
   refine sy_nil rfl ?_
   refine ny_next ?_
   refine cy_ret ?_
   have hie : i = 12 := by have := of_decide_eq_false hc34; omega
   subst hie
   refine ny_finR (res1 rfl rfl) (fun w hs => ?_)
   obtain ⟨A, c, h3, rfl, hc1, hc2, hlen, hle3, hcell, hpos, hs'⟩ := frzRow 0 rfl (by simp) hs
   obtain ⟨g, rfl⟩ := hpos (by decide)
   exact ⟨(g, c), h3, rfl, fun j u hj => by obtain ⟨g', he, hc'⟩ := hcell j u hj; injection he with he; injection he with he; subst he; exact hc', hs'.toGrow⟩
set_option maxRecDepth 100000 in
theorem find_c (s : ByteArray) (k : Int) (h : Hp) : C0 Tryd.prog 79 [.string s, .int .i64 k] h (retF (findL s.data.toList k)) := by
 refine enter0 Tryd.func79 rfl rfl rfl (fun w => ?_)
 refine cy_seq ?_
 refine cy_region ?_
 refine sy_alloc zer_129 rfl rfl (fun b4 hb4 hM4 => ?_) (by simp)
 refine sy_assign rfl rfl rfl ?_
 refine sy_nil rfl ?_
 refine ny_next ?_
 refine cy_scope ?_
 refine cy_seq ?_
 refine cy_region ?_
 refine sy_alloc zer_129 rfl rfl (fun b6 hb6 hM6 => ?_) (by simp)
 refine sy_nil rfl ?_
 refine ny_next ?_
 refine cy_seq ?_
 refine cy_label ?_
 refine ny_next ?_
 refine cy_seq ?_
 refine cy_seq ?_
 refine cy_region ?_
 refine sy_callx call_84 rfl (all_c _) rfl rfl (fun x9 h2 hx9 hle9 => ?_)
 obtain ⟨g, c⟩ := x9
 refine sy_len rfl (len_slice Tryd.underlying138 _ _ _) rfl rfl ?_
 refine sy_move rfl rfl rfl ?_
 refine sy_nil rfl ?_
 refine ny_next ?_
 refine cy_block ?_
 refine cy_loop (ι := Nat) (fun i => i ≤ 26 ∧ ∀ o ∈ opsL.take i, hit s.data.toList k o = false) (fun i => 26 - i) (fun i => [(0, .string s), (1, .int .i64 k), (4, .pointer (some ⟨b4, 0, none⟩)), (5, .bool false), (6, .pointer (some ⟨b6, 0, none⟩)), (9, .slice (some ⟨g, 0, none⟩) 26 c), (10, .int .i64 26), (11, .int .i64 (i : Int))]) (fun _ => h2)
  (fun _ => [.blk b6 (.cells [.int .i64 0, .string ⟨#[]⟩, .string ⟨#[]⟩].toArray 129 (0, 0)), .blk b4 (.cells [.int .i64 0, .string ⟨#[]⟩, .string ⟨#[]⟩].toArray 129 (0, 0))]) 0 [0, 0] ⟨Nat.zero_le _, fun _ ho => (List.not_mem_nil ho).elim⟩ ⟨rfl, rfl, rfl, rfl, rfl, rfl, rfl, rfl, trivial⟩ rfl rfl ?_
 rintro i ⟨hi, hpre⟩
 refine cy_seq ?_
 refine cy_region ?_
 refine sy_cmp rfl rfl rfl rfl rfl ?_
 refine sy_nil rfl ?_
 refine ny_next ?_
 refine cy_seq ?_
 refine cy_cond rfl (fun hc12 => ?_) (fun hc12 => ?_)
 · have hlt : i < 26 := by have := of_decide_eq_true hc12; omega
   obtain ⟨⟨p, ty, nm⟩, ho⟩ : ∃ o, opsL[i]? = some o := ⟨_, List.getElem?_eq_getElem (by rw [opsL_len]; exact hlt)⟩
   refine cy_skip ?_
   refine ny_next ?_
   refine cy_seq ?_
   refine cy_block ?_
   refine cy_seq ?_
   refine cy_region ?_
   refine sy_idxS (ik := .i64) (i := (i : Int)) els_138 rfl rfl (by omega) (by omega) rfl rfl ?_
   refine sy_ldah (vs := [.int .i64 p, .string ⟨ty.toArray⟩, .string ⟨nm.toArray⟩]) agg_129 rfl rfl (fun j u hj => by have := hx9 _ u (cellsOf_get ho hj); simpa using this) rfl rfl ?_
   refine sy_alloc zer_129 rfl rfl (fun b8 hb8 hM8 => ?_) (by simp)
   first | refine sy_stl 0 sz_129 rfl rfl rfl rfl rfl rfl rfl rfl ?_ | refine sy_stl 1 sz_129 rfl rfl rfl rfl rfl rfl rfl rfl ?_ | refine sy_stl 2 sz_129 rfl rfl rfl rfl rfl rfl rfl rfl ?_
   refine sy_nil rfl ?_
   refine ny_next ?_
   refine cy_block ?_
   refine cy_seq ?_
   refine cy_region ?_
   refine sy_field fld_129_2 rfl rfl rfl ?_
   first | refine sy_ldr 0 one_9 rfl rfl rfl rfl rfl ?_ | refine sy_ldr 1 one_9 rfl rfl rfl rfl rfl ?_ | refine sy_ldr 2 one_9 rfl rfl rfl rfl rfl ?_
   refine sy_move rfl rfl rfl ?_
   refine sy_nes rfl rfl rfl rfl ?_
   refine sy_move rfl rfl rfl ?_
   refine sy_cond (d := 21) _ rfl rfl (fun hg21 => ?_) (fun hg21 => ?_)
   · refine sy_skip rfl rfl rfl ?_
     refine sy_skip rfl rfl rfl ?_
     refine sy_skip rfl rfl rfl ?_
     refine sy_skip rfl rfl rfl ?_
     refine sy_skip rfl rfl rfl ?_
     refine sy_pickT rfl rfl rfl rfl ?_
     refine sy_assign rfl rfl rfl ?_
     refine sy_nil rfl ?_
     refine ny_next ?_
     refine cy_condT rfl ?_
     refine cy_exit ?_
     refine ny_blockY rfl ?_
     refine ny_blockX ?_
     refine ny_next ?_
     refine cy_region ?_
     refine sy_addi (z := ((i + 1 : Nat) : Int)) rfl rfl (by omega) (by omega) (by omega) rfl rfl ?_
     refine sy_move rfl rfl rfl ?_
     refine sy_nil rfl ?_
     refine ny_round (i + 1) [1, 1] ⟨by omega, ?_⟩ (show 26 - (i + 1) < 26 - i by omega) ⟨rfl, rfl, rfl, rfl, rfl, rfl, rfl, rfl, trivial⟩ rfl rfl
     first | exact find_no1 hpre ho hg21 | exact find_no2 hpre ho hc16
   · refine sy_field fld_129_1 rfl rfl rfl ?_
     first | refine sy_ldr 0 one_9 rfl rfl rfl rfl rfl ?_ | refine sy_ldr 1 one_9 rfl rfl rfl rfl rfl ?_ | refine sy_ldr 2 one_9 rfl rfl rfl rfl rfl ?_
     refine sy_len rfl (len_string Tryd.underlying9 _) rfl rfl ?_
     refine sy_move rfl rfl rfl ?_
     refine sy_cmp rfl rfl rfl rfl rfl ?_
     refine sy_pickF rfl rfl rfl rfl ?_
     refine sy_assign rfl rfl rfl ?_
     refine sy_nil rfl ?_
     refine ny_next ?_
     refine cy_cond rfl (fun hc16 => ?_) (fun hc16 => ?_)
     · refine cy_exit ?_
       refine ny_blockY rfl ?_
       refine ny_blockX ?_
       refine ny_next ?_
       refine cy_region ?_
       refine sy_addi (z := ((i + 1 : Nat) : Int)) rfl rfl (by omega) (by omega) (by omega) rfl rfl ?_
       refine sy_move rfl rfl rfl ?_
       refine sy_nil rfl ?_
       refine ny_round (i + 1) [1, 1] ⟨by omega, ?_⟩ (show 26 - (i + 1) < 26 - i by omega) ⟨rfl, rfl, rfl, rfl, rfl, rfl, rfl, rfl, trivial⟩ rfl rfl
       first | exact find_no1 hpre ho hg21 | exact find_no2 hpre ho hc16
     · refine cy_seq ?_
       refine cy_region ?_
       first | refine sy_ldar 0 agg_129 rfl rfl rfl rfl rfl ?_ | refine sy_ldar 1 agg_129 rfl rfl rfl rfl rfl ?_ | refine sy_ldar 2 agg_129 rfl rfl rfl rfl rfl ?_
       first | refine sy_stl 0 sz_129 rfl rfl rfl rfl rfl rfl rfl rfl ?_ | refine sy_stl 1 sz_129 rfl rfl rfl rfl rfl rfl rfl rfl ?_ | refine sy_stl 2 sz_129 rfl rfl rfl rfl rfl rfl rfl rfl ?_
       refine sy_nil rfl ?_
       refine ny_next ?_
       refine cy_exit ?_
       refine ny_blockY rfl ?_
       refine ny_blockY rfl ?_
       refine ny_thenE ?_
       refine ny_thenE ?_
       refine ny_blockX ?_
       refine ny_next ?_
       refine cy_seq ?_
       first | refine cy_frz 0 rfl (by simp) (fun h3 hle3 hb6 => ?_) | skip
       refine cy_regionH mixed (by kernel_rfl) ?_
       refine sy_ldah (vs := [.int .i64 _, .string _, .string _]) agg_129 rfl rfl (fun j u hj => by simp only [Hp.cell, hb6, Nat.zero_add]; simpa using hj) rfl rfl ?_
       refine sy_field fld_129_0 rfl rfl rfl ?_
       refine sy_ldh one_3 rfl (fld_cell hb6 rfl) rfl rfl ?_
       refine sy_cmp rfl rfl rfl rfl rfl ?_
       first | refine sy_stlH 0 (by kernel_rfl) sz_129 rfl rfl rfl rfl rfl rfl rfl rfl ?_ | refine sy_stlH 1 (by kernel_rfl) sz_129 rfl rfl rfl rfl rfl rfl rfl rfl ?_ | refine sy_stlH 2 (by kernel_rfl) sz_129 rfl rfl rfl rfl rfl rfl rfl rfl ?_
       refine sy_assign rfl rfl rfl ?_
       refine sy_nilH ?_
       refine ny_next ?_
       refine cy_ret ?_
       refine ny_scopeR ?_
       refine ny_finR (resc1 0 rfl agg_129 rfl rfl rfl rfl) (fun w hs => ⟨?_, hs.frm⟩)
       first | exact find_yes hpre ho hg21 hc16 | exact find_miss hpre hi hc12
 · refine cy_exit ?_
   refine ny_thenE ?_
   refine ny_thenE ?_
   refine ny_blockX ?_
   refine ny_next ?_
   refine cy_seq ?_
   first | refine cy_frz 0 rfl (by simp) (fun h3 hle3 hb6 => ?_) | skip
   refine cy_regionH mixed (by kernel_rfl) ?_
   refine sy_ldah (vs := [.int .i64 _, .string _, .string _]) agg_129 rfl rfl (fun j u hj => by simp only [Hp.cell, hb6, Nat.zero_add]; simpa using hj) rfl rfl ?_
   refine sy_field fld_129_0 rfl rfl rfl ?_
   refine sy_ldh one_3 rfl (fld_cell hb6 rfl) rfl rfl ?_
   refine sy_cmp rfl rfl rfl rfl rfl ?_
   first | refine sy_stlH 0 (by kernel_rfl) sz_129 rfl rfl rfl rfl rfl rfl rfl rfl ?_ | refine sy_stlH 1 (by kernel_rfl) sz_129 rfl rfl rfl rfl rfl rfl rfl rfl ?_ | refine sy_stlH 2 (by kernel_rfl) sz_129 rfl rfl rfl rfl rfl rfl rfl rfl ?_
   refine sy_assign rfl rfl rfl ?_
   refine sy_nilH ?_
   refine ny_next ?_
   refine cy_ret ?_
   refine ny_scopeR ?_
   refine ny_finR (resc1 0 rfl agg_129 rfl rfl rfl rfl) (fun w hs => ⟨?_, hs.frm⟩)
   first | exact find_yes hpre ho hg21 hc16 | exact find_miss hpre hi hc12
theorem find_n {s : ByteArray} {k : Int} {h : Hp} (hf : findL s.data.toList k = none) : C0 Tryd.prog 79 [.string s, .int .i64 k] h (.tuple #[.agg #[.int .i64 0, .string ⟨#[]⟩, .string ⟨#[]⟩], .bool false]) := by
 have := find_c s k h
 rw [hf] at this
 exact this
theorem find_s {s : ByteArray} {k : Int} {h : Hp} {p : Int} {ty nm : List UInt8} (hf : findL s.data.toList k = some (p, ty, nm)) : C0 Tryd.prog 79 [.string s, .int .i64 k] h (.tuple #[.agg #[.int .i64 p, .string ⟨ty.toArray⟩, .string ⟨nm.toArray⟩], .bool true]) := by
 have := find_c s k h
 rw [hf] at this
 exact this
set_option maxRecDepth 100000 in
theorem infix_n (s : ByteArray) (h : Hp) (hf : findL s.data.toList 3 = none) : C0 Tryd.prog 70 [.string s] h (tup4 (0, 0, 0, false)) := by
 refine enter0 Tryd.func70 rfl rfl rfl (fun w => ?_)
 refine cy_seq ?_
 refine cy_region ?_
 refine sy_assign rfl rfl rfl ?_
 refine sy_assign rfl rfl rfl ?_
 refine sy_assign rfl rfl rfl ?_
 refine sy_assign rfl rfl rfl ?_
 refine sy_nil rfl ?_
 refine ny_next ?_
 refine cy_seq ?_
 refine cy_region ?_
 refine sy_move rfl rfl rfl ?_
 refine sy_call rfl call_79 rfl (find_n hf) rfl rfl ?_
 refine sy_move rfl rfl rfl ?_
 refine sy_extract rfl rfl rfl rfl ?_
 refine sy_extract rfl rfl rfl rfl ?_
 refine sy_alloc zer_129 rfl rfl (fun b6 hb6 hM6 => ?_) (by simp)
 first | refine sy_stl 0 sz_129 rfl rfl rfl rfl rfl rfl rfl rfl ?_ | refine sy_stl 1 sz_129 rfl rfl rfl rfl rfl rfl rfl rfl ?_
 refine sy_assign rfl rfl rfl ?_
 refine sy_nil rfl ?_
 refine ny_next ?_
 refine cy_seq ?_
 refine cy_seq ?_
 refine cy_region ?_
 refine sy_move rfl rfl rfl ?_
 refine sy_not rfl rfl rfl ?_
 refine sy_nil rfl ?_
 refine ny_next ?_
 refine cy_cond rfl (fun hc14 => ?_) (fun hc14 => ?_)
 · refine cy_seq ?_
   refine cy_region ?_
   refine sy_assign rfl rfl rfl ?_
   refine sy_assign rfl rfl rfl ?_
   refine sy_assign rfl rfl rfl ?_
   refine sy_assign rfl rfl rfl ?_
   refine sy_nil rfl ?_
   refine ny_next ?_
   refine cy_ret ?_
   refine ny_thenR ?_
   exact ny_finR (res4 rfl rfl rfl rfl rfl) (fun w hs => ⟨rfl, hs.frm⟩)
 · cases hc14
set_option maxRecDepth 100000 in
theorem infix_s (s : ByteArray) (h : Hp) (p : Int) (c0 c1 c2 : UInt8) (nm : List UInt8) (hf : findL s.data.toList 3 = some (p, [c0, c1, c2], nm)) (h1 : 0 ≤ p) (h2 : p ≤ 2000) : C0 Tryd.prog 70 [.string s] h (tup4 (bes p c0, p, bes p c2, true)) := by
 refine enter0 Tryd.func70 rfl rfl rfl (fun w => ?_)
 refine cy_seq ?_
 refine cy_region ?_
 refine sy_assign rfl rfl rfl ?_
 refine sy_assign rfl rfl rfl ?_
 refine sy_assign rfl rfl rfl ?_
 refine sy_assign rfl rfl rfl ?_
 refine sy_nil rfl ?_
 refine ny_next ?_
 refine cy_seq ?_
 refine cy_region ?_
 refine sy_move rfl rfl rfl ?_
 refine sy_call rfl call_79 rfl (find_s hf) rfl rfl ?_
 refine sy_move rfl rfl rfl ?_
 refine sy_extract rfl rfl rfl rfl ?_
 refine sy_extract rfl rfl rfl rfl ?_
 refine sy_alloc zer_129 rfl rfl (fun b6 hb6 hM6 => ?_) (by simp)
 first | refine sy_stl 0 sz_129 rfl rfl rfl rfl rfl rfl rfl rfl ?_ | refine sy_stl 1 sz_129 rfl rfl rfl rfl rfl rfl rfl rfl ?_
 refine sy_assign rfl rfl rfl ?_
 refine sy_nil rfl ?_
 refine ny_next ?_
 refine cy_seq ?_
 refine cy_seq ?_
 refine cy_region ?_
 refine sy_move rfl rfl rfl ?_
 refine sy_not rfl rfl rfl ?_
 refine sy_nil rfl ?_
 refine ny_next ?_
 refine cy_cond rfl (fun hc14 => ?_) (fun hc14 => ?_)
 · cases hc14
 · refine cy_skip ?_
   refine ny_next ?_
   refine cy_seq ?_
   refine cy_regionQ mixed (by kernel_rfl) ?_
   first | refine sy_ldar 0 agg_129 rfl rfl rfl rfl rfl ?_ | refine sy_ldar 1 agg_129 rfl rfl rfl rfl rfl ?_
   refine sy_field fld_129_1 rfl rfl rfl ?_
   first | refine sy_ldr 0 one_9 rfl rfl rfl rfl rfl ?_ | refine sy_ldr 1 one_9 rfl rfl rfl rfl rfl ?_
   refine sy_idxs Tryd.underlying9 rfl rfl (by decide) rfl rfl rfl ?_
   refine sy_call rfl call_80 rfl (beside_c _ _ _ _ _ h1 h2) rfl rfl ?_
   refine sy_field fld_129_0 rfl rfl rfl ?_
   first | refine sy_ldr 0 one_3 rfl rfl rfl rfl rfl ?_ | refine sy_ldr 1 one_3 rfl rfl rfl rfl rfl ?_
   first | refine sy_ldar 0 agg_129 rfl rfl rfl rfl rfl ?_ | refine sy_ldar 1 agg_129 rfl rfl rfl rfl rfl ?_
   refine sy_field fld_129_1 rfl rfl rfl ?_
   first | refine sy_ldr 0 one_9 rfl rfl rfl rfl rfl ?_ | refine sy_ldr 1 one_9 rfl rfl rfl rfl rfl ?_
   refine sy_idxs Tryd.underlying9 rfl rfl (by decide) rfl rfl rfl ?_
   refine sy_call rfl call_80 rfl (beside_c _ _ _ _ _ h1 h2) rfl rfl ?_
   refine sy_assign rfl rfl rfl ?_
   refine sy_assign rfl rfl rfl ?_
   refine sy_assign rfl rfl rfl ?_
   refine sy_assign rfl rfl rfl ?_
   refine sy_nil rfl ?_
   refine ny_next ?_
   refine cy_ret ?_
   exact ny_finR (res4 rfl rfl rfl rfl rfl) (fun w hs => ⟨rfl, hs.frm⟩)
set_option maxRecDepth 100000 in
theorem prefix_n (s : ByteArray) (h : Hp) (hf : findL s.data.toList 2 = none) : C0 Tryd.prog 82 [.string s] h (tup3 (0, 0, false)) := by
 refine enter0 Tryd.func82 rfl rfl rfl (fun w => ?_)
 refine cy_seq ?_
 refine cy_region ?_
 refine sy_assign rfl rfl rfl ?_
 refine sy_assign rfl rfl rfl ?_
 refine sy_assign rfl rfl rfl ?_
 refine sy_nil rfl ?_
 refine ny_next ?_
 refine cy_seq ?_
 refine cy_region ?_
 refine sy_move rfl rfl rfl ?_
 refine sy_call rfl call_79 rfl (find_n hf) rfl rfl ?_
 refine sy_move rfl rfl rfl ?_
 refine sy_extract rfl rfl rfl rfl ?_
 refine sy_extract rfl rfl rfl rfl ?_
 refine sy_alloc zer_129 rfl rfl (fun b5 hb5 hM5 => ?_) (by simp)
 first | refine sy_stl 0 sz_129 rfl rfl rfl rfl rfl rfl rfl rfl ?_ | refine sy_stl 1 sz_129 rfl rfl rfl rfl rfl rfl rfl rfl ?_
 refine sy_assign rfl rfl rfl ?_
 refine sy_nil rfl ?_
 refine ny_next ?_
 refine cy_seq ?_
 refine cy_seq ?_
 refine cy_region ?_
 refine sy_move rfl rfl rfl ?_
 refine sy_not rfl rfl rfl ?_
 refine sy_nil rfl ?_
 refine ny_next ?_
 refine cy_cond rfl (fun hc13 => ?_) (fun hc13 => ?_)
 · refine cy_seq ?_
   refine cy_region ?_
   refine sy_assign rfl rfl rfl ?_
   refine sy_assign rfl rfl rfl ?_
   refine sy_assign rfl rfl rfl ?_
   refine sy_nil rfl ?_
   refine ny_next ?_
   refine cy_ret ?_
   refine ny_thenR ?_
   exact ny_finR (res3 rfl rfl rfl rfl) (fun w hs => ⟨rfl, hs.frm⟩)
 · cases hc13
set_option maxRecDepth 100000 in
theorem prefix_s (s : ByteArray) (h : Hp) (p : Int) (c0 c1 : UInt8) (nm : List UInt8) (hf : findL s.data.toList 2 = some (p, [c0, c1], nm)) (h1 : 0 ≤ p) (h2 : p ≤ 2000) : C0 Tryd.prog 82 [.string s] h (tup3 (p, bes p c1, true)) := by
 refine enter0 Tryd.func82 rfl rfl rfl (fun w => ?_)
 refine cy_seq ?_
 refine cy_region ?_
 refine sy_assign rfl rfl rfl ?_
 refine sy_assign rfl rfl rfl ?_
 refine sy_assign rfl rfl rfl ?_
 refine sy_nil rfl ?_
 refine ny_next ?_
 refine cy_seq ?_
 refine cy_region ?_
 refine sy_move rfl rfl rfl ?_
 refine sy_call rfl call_79 rfl (find_s hf) rfl rfl ?_
 refine sy_move rfl rfl rfl ?_
 refine sy_extract rfl rfl rfl rfl ?_
 refine sy_extract rfl rfl rfl rfl ?_
 refine sy_alloc zer_129 rfl rfl (fun b5 hb5 hM5 => ?_) (by simp)
 first | refine sy_stl 0 sz_129 rfl rfl rfl rfl rfl rfl rfl rfl ?_ | refine sy_stl 1 sz_129 rfl rfl rfl rfl rfl rfl rfl rfl ?_
 refine sy_assign rfl rfl rfl ?_
 refine sy_nil rfl ?_
 refine ny_next ?_
 refine cy_seq ?_
 refine cy_seq ?_
 refine cy_region ?_
 refine sy_move rfl rfl rfl ?_
 refine sy_not rfl rfl rfl ?_
 refine sy_nil rfl ?_
 refine ny_next ?_
 refine cy_cond rfl (fun hc13 => ?_) (fun hc13 => ?_)
 · cases hc13
 · refine cy_skip ?_
   refine ny_next ?_
   refine cy_seq ?_
   refine cy_regionQ mixed (by kernel_rfl) ?_
   refine sy_field fld_129_0 rfl rfl rfl ?_
   first | refine sy_ldr 0 one_3 rfl rfl rfl rfl rfl ?_ | refine sy_ldr 1 one_3 rfl rfl rfl rfl rfl ?_
   first | refine sy_ldar 0 agg_129 rfl rfl rfl rfl rfl ?_ | refine sy_ldar 1 agg_129 rfl rfl rfl rfl rfl ?_
   refine sy_field fld_129_1 rfl rfl rfl ?_
   first | refine sy_ldr 0 one_9 rfl rfl rfl rfl rfl ?_ | refine sy_ldr 1 one_9 rfl rfl rfl rfl rfl ?_
   refine sy_idxs Tryd.underlying9 rfl rfl (by decide) rfl rfl rfl ?_
   refine sy_call rfl call_80 rfl (beside_c _ _ _ _ _ h1 h2) rfl rfl ?_
   refine sy_assign rfl rfl rfl ?_
   refine sy_assign rfl rfl rfl ?_
   refine sy_assign rfl rfl rfl ?_
   refine sy_nil rfl ?_
   refine ny_next ?_
   refine cy_ret ?_
   exact ny_finR (res3 rfl rfl rfl rfl) (fun w hs => ⟨rfl, hs.frm⟩)
theorem infix_c (s : ByteArray) (h : Hp) : C0 Tryd.prog 70 [.string s] h (tup4 (refInfix s.data.toList)) := by
 rw [← infix_eq]
 unfold infixL
 cases hf : findL s.data.toList 3 with
 | none => exact infix_n s h hf
 | some o =>
  obtain ⟨p, ty, nm⟩ := o
  obtain ⟨h1, h2, h3⟩ := findL_facts hf
  match ty, h3 with
  | [c0, c1, c2], _ => exact infix_s s h p c0 c1 c2 nm hf h1 h2
theorem prefix_c (s : ByteArray) (h : Hp) : C0 Tryd.prog 82 [.string s] h (tup3 (refPrefix s.data.toList)) := by
 rw [← prefix_eq]
 unfold prefixL
 cases hf : findL s.data.toList 2 with
 | none => exact prefix_n s h hf
 | some o =>
  obtain ⟨p, ty, nm⟩ := o
  obtain ⟨h1, h2, h3⟩ := findL_facts hf
  match ty, h3 with
  | [c0, c1], _ => exact prefix_s s h p c0 c1 nm hf h1 h2
end Go.Proofs.YtanhhihechakhaaDoor
set_option linter.unusedVariables false
set_option linter.unusedSimpArgs false
namespace Go.Proofs.YtanhhihechakhaaDoor
open Go.RowKit Go.Proofs.YtanhhihechakhaaDoor.E Go.Proofs.YtanhhihechakhaaDoor.ReplP Go.Proofs.YtanhhihechakhaaDoor.TokP Go.Proofs.YtanhhihechakhaaDoor.TermP Go.Proofs.YtanhhihechakhaaDoor.WrP Go.Proofs.YtanhhihechakhaaDoor.ReadP Go.Proofs.YtanhhihechakhaaDoor.OpsP
theorem tokA_at {L : List RT} {i : Nat} {e : RT} (h : L[i]? = some e) : tokA L i = e := by unfold tokA; rw [h]; rfl
theorem tokA_no {L : List RT} {i : Nat} (h : L.length ≤ i) : tokA L i = rt0 := by unfold tokA; rw [List.getElem?_eq_none h]; rfl
set_option maxRecDepth 100000 in
theorem peek_c (r bm : Nat) (A : Option Addr) (c : Nat) (L : List RT) (lv : Int) (h : Hp) (hT : RowsAt h A 5 (L.map rtC)) (hL : L.length ≤ 1048576) (st : RSt) (inn : Int) (vn : Value) (hat : st.at_ ≤ L.length) : CR Tryd.prog 38 [.pointer (some ⟨r, 0, none⟩), .int .i64 0] h [.blk r (.cells [.slice A L.length c, .int .i64 ((st.at_ : Nat) : Int), .int .i64 lv, .int .i64 inn, .map (some bm), vn].toArray 74 (0, 0))] (fun _ : Unit => .returned (.agg (rtC (tokA L st.at_)).toArray)) (fun _ h' H' => h = h' ∧ H' = [.blk r (.cells [.slice A L.length c, .int .i64 ((st.at_ : Nat) : Int), .int .i64 lv, .int .i64 inn, .map (some bm), vn].toArray 74 (0, 0))]) := by
 refine enterR Tryd.func38 rfl rfl rfl (fun w hb0 => ?_)
 refine cy_seq ?_
 refine cy_region ?_
 refine sy_alloc zer_65 rfl rfl (fun b4 hb4 hM4 => ?_) (by first | exact hb0 | simp)
 refine sy_nil rfl ?_
 refine ny_next ?_
 refine cy_seq ?_
 refine cy_seq ?_
 refine cy_regionQ mixed (by kernel_rfl) ?_
 refine sy_move rfl rfl rfl ?_
 refine sy_nilCheck rfl rfl rfl ?_
 refine sy_field fld_74_1 rfl rfl rfl ?_
 first | refine sy_ldr 0 one_3 rfl rfl rfl rfl rfl ?_ | refine sy_ldr 1 one_3 rfl rfl rfl rfl rfl ?_
 refine sy_move rfl rfl rfl ?_
 refine sy_addi (z := ((st.at_ : Nat) : Int)) rfl rfl (by omega) (by omega) (by omega) rfl rfl ?_
 refine sy_move rfl rfl rfl ?_
 refine sy_nilCheck rfl rfl rfl ?_
 refine sy_field fld_74_0 rfl rfl rfl ?_
 first | refine sy_ldr 0 one_45 rfl rfl rfl rfl rfl ?_ | refine sy_ldr 1 one_45 rfl rfl rfl rfl rfl ?_
 refine sy_len rfl (len_slice Tryd.underlying45 _ _ _) rfl rfl ?_
 refine sy_cmp rfl rfl rfl rfl rfl ?_
 refine sy_nil rfl ?_
 refine ny_next ?_
 refine cy_cond rfl (fun hc16 => ?_) (fun hc16 => ?_)
 · have hge : L.length ≤ st.at_ := by have := of_decide_eq_true hc16; omega
   refine cy_seq ?_
   refine cy_region ?_
   refine sy_build rfl (fun w => bld_65_ w) rfl rfl ?_
   first | refine sy_stl 0 sz_65 rfl rfl rfl rfl rfl rfl rfl rfl ?_ | refine sy_stl 1 sz_65 rfl rfl rfl rfl rfl rfl rfl rfl ?_
   refine sy_nil rfl ?_
   refine ny_next ?_
   refine cy_ret ?_
   refine ny_thenR ?_
   rw [tokA_no hge]
   refine ny_finR (rescS 0 rfl agg_65 rfl rfl rfl) (fun w hs => ⟨(), h, _, rfl, ⟨rfl, rfl⟩, hs.sel (is := [1]) rfl⟩)
 · have hlt : st.at_ < L.length := by have := of_decide_eq_false hc16; omega
   refine cy_skip ?_
   refine ny_next ?_
   refine cy_seq ?_
   refine cy_regionS 11 mixed (by kernel_rfl) rfl ?_
   refine sy_move rfl rfl rfl ?_
   refine sy_nilCheck rfl rfl rfl ?_
   refine sy_field fld_74_0 rfl rfl rfl ?_
   first | refine sy_ldr 0 one_45 rfl rfl rfl rfl rfl ?_ | refine sy_ldr 1 one_45 rfl rfl rfl rfl rfl ?_
   refine sy_move rfl rfl rfl ?_
   refine sy_nilCheck rfl rfl rfl ?_
   refine sy_field fld_74_1 rfl rfl rfl ?_
   first | refine sy_ldr 0 one_3 rfl rfl rfl rfl rfl ?_ | refine sy_ldr 1 one_3 rfl rfl rfl rfl rfl ?_
   refine sy_move rfl rfl rfl ?_
   refine sy_addi (z := ((st.at_ : Nat) : Int)) rfl rfl (by omega) (by omega) (by omega) rfl rfl ?_
   refine sy_idxR (i := st.at_) (fc := rtC) (es := L) els_45 rfl rfl hT rfl (by omega) rfl rfl (fun e28 b28 o28 he28 hA28 hc28 => ?_)
   refine sy_tail ?_
   refine sy_ldah (vs := rtC e28) agg_65 rfl rfl hc28 rfl rfl ?_
   first | refine sy_stl 0 sz_65 rfl rfl rfl rfl rfl rfl rfl rfl ?_ | refine sy_stl 1 sz_65 rfl rfl rfl rfl rfl rfl rfl rfl ?_
   refine sy_nil rfl ?_
   refine ny_next ?_
   refine cy_ret ?_
   rw [tokA_at he28]
   refine ny_finR (rescS 0 rfl agg_65 rfl rfl rfl) (fun w hs => ⟨(), h, _, rfl, ⟨rfl, rfl⟩, hs.sel (is := [1]) rfl⟩)
set_option maxRecDepth 100000 in
theorem is_c (s : ByteArray) (r bm : Nat) (A : Option Addr) (c : Nat) (L : List RT) (lv : Int) (h : Hp) (hT : RowsAt h A 5 (L.map rtC)) (hL : L.length ≤ 1048576) (st : RSt) (inn : Int) (vn : Value) (hat : st.at_ ≤ L.length) : CR Tryd.prog 69 [.pointer (some ⟨r, 0, none⟩), .string s] h [.blk r (.cells [.slice A L.length c, .int .i64 ((st.at_ : Nat) : Int), .int .i64 lv, .int .i64 inn, .map (some bm), vn].toArray 74 (0, 0))] (fun _ : Unit => .returned (.bool (isP L st.at_ s.data.toList))) (fun _ h' H' => h = h' ∧ H' = [.blk r (.cells [.slice A L.length c, .int .i64 ((st.at_ : Nat) : Int), .int .i64 lv, .int .i64 inn, .map (some bm), vn].toArray 74 (0, 0))]) := by
 refine enterR Tryd.func69 rfl rfl rfl (fun w hb0 => ?_)
 refine cy_seq ?_
 refine cy_region ?_
 refine sy_assign rfl rfl rfl ?_
 refine sy_nil rfl ?_
 refine ny_next ?_
 refine cy_seq ?_
 refine cy_region ?_
 refine sy_move rfl rfl rfl ?_
 refine sy_callR1 [0] call_38 rfl rfl (peek_c r bm A c L lv _ hT hL st _ vn hat) rfl rfl (fun x7 h7x H7x hx7 hle7x => ?_)
 obtain ⟨rfl, rfl⟩ := hx7
 refine sy_alloc zer_65 rfl rfl (fun b5 hb5 hM5 => ?_) (by first | exact hb0 | simp)
 first | refine sy_stl 0 sz_65 rfl rfl rfl rfl rfl rfl rfl rfl ?_ | refine sy_stl 1 sz_65 rfl rfl rfl rfl rfl rfl rfl rfl ?_
 refine sy_nil rfl ?_
 refine ny_next ?_
 refine cy_seq ?_
 refine cy_region ?_
 refine sy_field fld_65_0 rfl rfl rfl ?_
 first | refine sy_ldr 0 one_3 rfl rfl rfl rfl rfl ?_ | refine sy_ldr 1 one_3 rfl rfl rfl rfl rfl ?_
 refine sy_cmp rfl rfl rfl rfl rfl ?_
 refine sy_move rfl rfl rfl ?_
 refine sy_cond (d := 11) _ rfl rfl (fun hg11 => ?_) (fun hg11 => ?_)
 · refine sy_field fld_65_1 rfl rfl rfl ?_
   first | refine sy_ldr 0 one_9 rfl rfl rfl rfl rfl ?_ | refine sy_ldr 1 one_9 rfl rfl rfl rfl rfl ?_
   refine sy_move rfl rfl rfl ?_
   refine sy_eqs rfl rfl rfl rfl ?_
   refine sy_pickT rfl rfl rfl rfl ?_
   refine sy_assign rfl rfl rfl ?_
   refine sy_nil rfl ?_
   refine ny_next ?_
   refine cy_ret ?_
   refine ny_finR (res1 rfl rfl) (fun w hs => ⟨(), h, _, ?_, ⟨rfl, rfl⟩, hs.sel (is := [1]) rfl⟩)
   refine congrArg (fun b => Ending.returned (Value.bool b)) ?_
   unfold isP
   first | (rw [hg11]; done) | (rw [hg11]; rfl)
 · refine sy_skip rfl rfl rfl ?_
   refine sy_skip rfl rfl rfl ?_
   refine sy_skip rfl rfl rfl ?_
   refine sy_skip rfl rfl rfl ?_
   refine sy_pickF rfl rfl rfl rfl ?_
   refine sy_assign rfl rfl rfl ?_
   refine sy_nil rfl ?_
   refine ny_next ?_
   refine cy_ret ?_
   refine ny_finR (res1 rfl rfl) (fun w hs => ⟨(), h, _, ?_, ⟨rfl, rfl⟩, hs.sel (is := [1]) rfl⟩)
   refine congrArg (fun b => Ending.returned (Value.bool b)) ?_
   unfold isP
   first | (rw [hg11]; done) | (rw [hg11]; rfl)
set_option maxRecDepth 100000 in
theorem rbad_c (r bm : Nat) (A : Option Addr) (c : Nat) (L : List RT) (lv : Int) (h : Hp) (hT : RowsAt h A 5 (L.map rtC)) (hL : L.length ≤ 1048576) (st : RSt) (inn : Int) (vn : Value) (hat : st.at_ ≤ L.length) (e : Int) : CR Tryd.prog 39 [.pointer (some ⟨r, 0, none⟩), .int .i64 e] h [.blk r (.cells [.slice A L.length c, .int .i64 ((st.at_ : Nat) : Int), .int .i64 lv, .int .i64 inn, .map (some bm), vn].toArray 74 (0, 0))] (fun _ : Unit => .panicked [{ v := faultV 76 st.at_ e, recovered := false }]) (fun _ h' H' => h = h' ∧ H' = [.blk r (.cells [.slice A L.length c, .int .i64 ((st.at_ : Nat) : Int), .int .i64 lv, .int .i64 inn, .map (some bm), vn].toArray 74 (0, 0))]) := by
 refine enterR Tryd.func39 rfl rfl rfl (fun w hb0 => ?_)
 refine cy_region ?_
 refine sy_move rfl rfl rfl ?_
 refine sy_nilCheck rfl rfl rfl ?_
 refine sy_field fld_74_1 rfl rfl rfl ?_
 first | refine sy_ldr 0 one_3 rfl rfl rfl rfl rfl ?_
 refine sy_move rfl rfl rfl ?_
 refine sy_build rfl (fun w => bld_76_0x1 w) rfl rfl ?_
 refine sy_iface Tryd.underlying76 rfl rfl rfl rfl ?_
 refine sy_panic rfl (fun w => rfl) rfl ?_
 exact ny_finP (fun w hs => ⟨(), h, _, rfl, ⟨rfl, rfl⟩, hs⟩)
set_option maxRecDepth 100000 in
theorem deeper_c (r bm : Nat) (A : Option Addr) (c : Nat) (L : List RT) (lv : Int) (h : Hp) (hT : RowsAt h A 5 (L.map rtC)) (hL : L.length ≤ 1048576) (st : RSt) (inn : Int) (vn : Value) (hat : st.at_ ≤ L.length) (hi0 : 0 ≤ inn) (hi1 : inn ≤ 1000000) : CRO Tryd.prog 67 [.pointer (some ⟨r, 0, none⟩)] h [.blk r (.cells [.slice A L.length c, .int .i64 ((st.at_ : Nat) : Int), .int .i64 lv, .int .i64 inn, .map (some bm), vn].toArray 74 (0, 0))] 76 ((if inn + 1 > 60 then RO.bad st.at_ 7 else RO.ok () st : RO Unit)) (fun _ _ : Unit => .tuple #[]) (fun _ _ _ h' H' => h = h' ∧ H' = [.blk r (.cells [.slice A L.length c, .int .i64 ((st.at_ : Nat) : Int), .int .i64 lv, .int .i64 (inn + 1), .map (some bm), vn].toArray 74 (0, 0))]) (fun h' H' => h = h' ∧ H' = [.blk r (.cells [.slice A L.length c, .int .i64 ((st.at_ : Nat) : Int), .int .i64 lv, .int .i64 (inn + 1), .map (some bm), vn].toArray 74 (0, 0))]) := by
 refine enterR Tryd.func67 rfl rfl rfl (fun w hb0 => ?_)
 refine cy_seq ?_
 refine cy_region ?_
 refine sy_move rfl rfl rfl ?_
 refine sy_nilCheck rfl rfl rfl ?_
 refine sy_field fld_74_3 rfl rfl rfl ?_
 first | refine sy_ldr 0 one_3 rfl rfl rfl rfl rfl ?_
 refine sy_addi (z := inn + 1) rfl rfl (by omega) (by omega) (by omega) rfl rfl ?_
 refine sy_nilCheck rfl rfl rfl ?_
 refine sy_field fld_74_3 rfl rfl rfl ?_
 first | refine sy_stl 0 sz_3 rfl rfl rfl rfl rfl rfl rfl rfl ?_
 refine sy_nil rfl ?_
 refine ny_next ?_
 refine cy_seq ?_
 refine cy_region ?_
 refine sy_move rfl rfl rfl ?_
 refine sy_nilCheck rfl rfl rfl ?_
 refine sy_field fld_74_3 rfl rfl rfl ?_
 first | refine sy_ldr 0 one_3 rfl rfl rfl rfl rfl ?_
 refine sy_cmp rfl rfl rfl rfl rfl ?_
 refine sy_nil rfl ?_
 refine ny_next ?_
 refine cy_cond rfl (fun hc13 => ?_) (fun hc13 => ?_)
 · refine cy_region ?_
   refine sy_move rfl rfl rfl ?_
   refine sy_callR [0] call_39 rfl rfl (rbad_c r bm A c L lv _ hT hL st _ _ hat 7) rfl rfl (fun x15 h15x H15x hx15 hle15x => ?_)
   obtain ⟨rfl, rfl⟩ := hx15
   exact ny_finP (fun w hs => ⟨.bad st.at_ 7, h, _, rfl, ⟨if_pos (of_decide_eq_true hc13), rfl, rfl⟩, hs⟩)
 · refine cy_skip ?_
   exact ny_fin (res0 rfl) (fun w hs => ⟨.ok () st (), h, _, rfl, ⟨if_neg (by have := of_decide_eq_false hc13; omega), rfl, rfl⟩, hs⟩)
set_option maxRecDepth 100000 in
theorem want_c (s : ByteArray) (r bm : Nat) (A : Option Addr) (c : Nat) (L : List RT) (lv : Int) (h : Hp) (hT : RowsAt h A 5 (L.map rtC)) (hL : L.length ≤ 1048576) (st : RSt) (inn : Int) (vn : Value) (hat : st.at_ ≤ L.length) : CRO Tryd.prog 77 [.pointer (some ⟨r, 0, none⟩), .string s] h [.blk r (.cells [.slice A L.length c, .int .i64 ((st.at_ : Nat) : Int), .int .i64 lv, .int .i64 inn, .map (some bm), vn].toArray 74 (0, 0))] 76 (wantR L s.data.toList () st) (fun _ _ : Unit => .tuple #[]) (fun _ _ _ h' H' => h = h' ∧ H' = [.blk r (.cells [.slice A L.length c, .int .i64 (((st.at_ + 1) : Nat) : Int), .int .i64 lv, .int .i64 inn, .map (some bm), vn].toArray 74 (0, 0))]) (fun h' H' => h = h' ∧ H' = [.blk r (.cells [.slice A L.length c, .int .i64 ((st.at_ : Nat) : Int), .int .i64 lv, .int .i64 inn, .map (some bm), vn].toArray 74 (0, 0))]) := by
 refine enterR Tryd.func77 rfl rfl rfl (fun w hb0 => ?_)
 refine cy_seq ?_
 refine cy_seq ?_
 refine cy_region ?_
 refine sy_move rfl rfl rfl ?_
 refine sy_move rfl rfl rfl ?_
 refine sy_callR1 [0] call_69 rfl rfl (is_c s r bm A c L lv _ hT hL st _ vn hat) rfl rfl (fun x6 h6x H6x hx6 hle6x => ?_)
 obtain ⟨rfl, rfl⟩ := hx6
 refine sy_not rfl rfl rfl ?_
 refine sy_nil rfl ?_
 refine ny_next ?_
 refine cy_cond rfl (fun hc7 => ?_) (fun hc7 => ?_)
 · have hp : isP L st.at_ s.data.toList = false := by simpa using hc7
   refine cy_region ?_
   refine sy_move rfl rfl rfl ?_
   refine sy_callR [0] call_39 rfl rfl (rbad_c r bm A c L lv _ hT hL st _ _ hat 4) rfl rfl (fun x9 h9x H9x hx9 hle9x => ?_)
   obtain ⟨rfl, rfl⟩ := hx9
   refine ny_thenP ?_
   exact ny_finP (fun w hs => ⟨.bad st.at_ 4, h, _, rfl, ⟨(by unfold wantR; rw [hp]; rfl), rfl, rfl⟩, hs⟩)
 · have hp : isP L st.at_ s.data.toList = true := by simpa using hc7
   refine cy_skip ?_
   refine ny_next ?_
   refine cy_region ?_
   refine sy_move rfl rfl rfl ?_
   refine sy_nilCheck rfl rfl rfl ?_
   refine sy_field fld_74_1 rfl rfl rfl ?_
   first | refine sy_ldr 0 one_3 rfl rfl rfl rfl rfl ?_
   refine sy_addi (z := ((st.at_ + 1 : Nat) : Int)) rfl rfl (by omega) (by omega) (by omega) rfl rfl ?_
   refine sy_nilCheck rfl rfl rfl ?_
   refine sy_field fld_74_1 rfl rfl rfl ?_
   first | refine sy_stl 0 sz_3 rfl rfl rfl rfl rfl rfl rfl rfl ?_
   refine sy_nil rfl ?_
   exact ny_fin (res0 rfl) (fun w hs => ⟨.ok () (adv st) (), h, _, rfl, ⟨(by unfold wantR; rw [if_pos hp]), rfl, rfl⟩, hs⟩)
set_option maxRecDepth 100000 in
theorem begins_c (t : RT) (h : Hp) : C0 Tryd.prog 83 [.agg #[.int .i64 t.kind, .string t.str, .int .i64 t.num, .bool t.quo, .bool t.tight]] h (.bool (beginsR t)) := by
 refine enter0 Tryd.func83 rfl rfl rfl (fun w => ?_)
 refine cy_seq ?_
 refine cy_region ?_
 refine sy_box rfl rfl rfl rfl (fun b1 hb1 hM1 => ?_) (by simp)
 refine sy_assign rfl rfl rfl ?_
 refine sy_nil rfl ?_
 refine ny_next ?_
 refine cy_seq ?_
 refine cy_seq ?_
 refine cy_region ?_
 refine sy_field fld_65_0 rfl rfl rfl ?_
 first | refine sy_ldr 0 one_3 rfl rfl rfl rfl rfl ?_
 refine sy_nil rfl ?_
 refine ny_next ?_
 refine cy_block ?_
 refine cy_seq ?_
 refine cy_seq ?_
 refine cy_region ?_
 refine sy_cmp rfl rfl rfl rfl rfl ?_
 refine sy_assign rfl rfl rfl ?_
 refine sy_nil rfl ?_
 refine ny_next ?_
 refine cy_cond rfl (fun hc9 => ?_) (fun hc9 => ?_)
 · have hk : t.kind = 3 ∨ t.kind = 2 := by first | exact .inl (by simpa using hc9) | exact .inr (by simpa using hc9)
   refine cy_skip ?_
   refine ny_next ?_
   refine cy_cond rfl (fun hc9 => ?_) (fun hc9 => ?_)
   · have hk : t.kind = 3 ∨ t.kind = 2 := by first | exact .inl (by simpa using hc9) | exact .inr (by simpa using hc9)
     refine cy_seq ?_
     refine cy_region ?_
     refine sy_assign rfl rfl rfl ?_
     refine sy_nil rfl ?_
     refine ny_next ?_
     refine cy_ret ?_
     refine ny_blockR ?_
     refine ny_thenR ?_
     refine ny_finR (res1 rfl rfl) (fun w hs2 => ⟨?_, hs2.frm⟩)
     refine congrArg (fun b => Ending.returned (Value.bool b)) ?_
     rw [beginsR, if_pos hk]
   · first | have hn3 : ¬ t.kind = 3 := (by simpa using hc9) | have hn2 : ¬ t.kind = 2 := (by simpa using hc9)
     refine cy_seq ?_
     refine cy_region ?_
     refine sy_cmp rfl rfl rfl rfl rfl ?_
     refine sy_assign rfl rfl rfl ?_
     refine sy_nil rfl ?_
     refine ny_next ?_
     refine cy_cond rfl (fun hc12 => ?_) (fun hc12 => ?_)
     · have hk4 : t.kind = 4 := by simpa using hc12
       refine cy_seq ?_
       refine cy_region ?_
       refine sy_field fld_65_1 rfl rfl rfl ?_
       first | refine sy_ldr 0 one_9 rfl rfl rfl rfl rfl ?_
       refine sy_eqs rfl rfl rfl rfl ?_
       refine sy_move rfl rfl rfl ?_
       refine sy_cond (d := 17) _ rfl rfl (fun hg17 => ?_) (fun hg17 => ?_)
       · refine sy_skip rfl rfl rfl ?_
         refine sy_skip rfl rfl rfl ?_
         refine sy_skip rfl rfl rfl ?_
         refine sy_pickT rfl rfl rfl rfl ?_
         refine sy_assign rfl rfl rfl ?_
         refine sy_nil rfl ?_
         refine ny_next ?_
         refine cy_ret ?_
         refine ny_blockR ?_
         refine ny_thenR ?_
         refine ny_finR (res1 rfl rfl) (fun w hs2 => ⟨?_, hs2.frm⟩)
         refine congrArg (fun b => Ending.returned (Value.bool b)) ?_
         unfold beginsR
         rw [if_neg (by omega), if_pos hk4]
         first | (rw [hg17]; done) | (rw [hg17]; rfl)
       · refine sy_field fld_65_1 rfl rfl rfl ?_
         first | refine sy_ldr 0 one_9 rfl rfl rfl rfl rfl ?_
         refine sy_eqs rfl rfl rfl rfl ?_
         refine sy_pickF rfl rfl rfl rfl ?_
         refine sy_assign rfl rfl rfl ?_
         refine sy_nil rfl ?_
         refine ny_next ?_
         refine cy_ret ?_
         refine ny_blockR ?_
         refine ny_thenR ?_
         refine ny_finR (res1 rfl rfl) (fun w hs2 => ⟨?_, hs2.frm⟩)
         refine congrArg (fun b => Ending.returned (Value.bool b)) ?_
         unfold beginsR
         rw [if_neg (by omega), if_pos hk4]
         first | (rw [hg17]; done) | (rw [hg17]; rfl)
     · have hk4 : ¬ t.kind = 4 := by simpa using hc12
       refine cy_seq ?_
       refine cy_region ?_
       refine sy_cmp rfl rfl rfl rfl rfl ?_
       refine sy_assign rfl rfl rfl ?_
       refine sy_nil rfl ?_
       refine ny_next ?_
       refine cy_cond rfl (fun hc22 => ?_) (fun hc22 => ?_)
       · have hk1 : t.kind = 1 := by simpa using hc22
         refine cy_seq ?_
         refine cy_region ?_
         refine sy_field fld_65_1 rfl rfl rfl ?_
         first | refine sy_ldr 0 one_9 rfl rfl rfl rfl rfl ?_
         refine sy_call rfl call_70 rfl (infix_c t.str _) rfl rfl ?_
         refine sy_move rfl rfl rfl ?_
         refine sy_extract rfl rfl rfl rfl ?_
         refine sy_extract rfl rfl rfl rfl ?_
         refine sy_extract rfl rfl rfl rfl ?_
         refine sy_extract rfl rfl rfl rfl ?_
         refine sy_assign rfl rfl rfl ?_
         refine sy_assign rfl rfl rfl ?_
         refine sy_assign rfl rfl rfl ?_
         refine sy_assign rfl rfl rfl ?_
         refine sy_nil rfl ?_
         refine ny_next ?_
         refine cy_seq ?_
         refine cy_region ?_
         refine sy_field fld_65_3 rfl rfl rfl ?_
         first | refine sy_ldr 0 one_4 rfl rfl rfl rfl rfl ?_
         refine sy_move rfl rfl rfl ?_
         refine sy_cond (d := 34) _ rfl rfl (fun hg34 => ?_) (fun hg34 => ?_)
         · refine sy_skip rfl rfl rfl ?_
           refine sy_skip rfl rfl rfl ?_
           refine sy_pickT rfl rfl rfl rfl ?_
           refine sy_assign rfl rfl rfl ?_
           refine sy_nil rfl ?_
           refine ny_next ?_
           refine cy_ret ?_
           refine ny_blockR ?_
           refine ny_thenR ?_
           refine ny_finR (res1 rfl rfl) (fun w hs2 => ⟨?_, hs2.frm⟩)
           refine congrArg (fun b => Ending.returned (Value.bool b)) ?_
           unfold beginsR
           rw [if_neg (by omega), if_neg (by omega), if_pos hk1]
           first | (rw [hg34]; done) | (rw [hg34]; rfl)
         · refine sy_move rfl rfl rfl ?_
           refine sy_not rfl rfl rfl ?_
           refine sy_pickF rfl rfl rfl rfl ?_
           refine sy_assign rfl rfl rfl ?_
           refine sy_nil rfl ?_
           refine ny_next ?_
           refine cy_ret ?_
           refine ny_blockR ?_
           refine ny_thenR ?_
           refine ny_finR (res1 rfl rfl) (fun w hs2 => ⟨?_, hs2.frm⟩)
           refine congrArg (fun b => Ending.returned (Value.bool b)) ?_
           unfold beginsR
           rw [if_neg (by omega), if_neg (by omega), if_pos hk1]
           first | (rw [hg34]; done) | (rw [hg34]; rfl)
       · have hk1 : ¬ t.kind = 1 := by simpa using hc22
         refine cy_skip ?_
         refine ny_blockN ?_
         refine ny_next ?_
         refine cy_seq ?_
         refine cy_region ?_
         refine sy_assign rfl rfl rfl ?_
         refine sy_nil rfl ?_
         refine ny_next ?_
         refine cy_ret ?_
         refine ny_finR (res1 rfl rfl) (fun w hs2 => ⟨?_, hs2.frm⟩)
         refine congrArg (fun b => Ending.returned (Value.bool b)) ?_
         first | (unfold beginsR; rw [if_neg (by omega), if_neg (by omega), if_neg (by omega)]; done) | (exfalso; simp_all; done)
 · first | have hn3 : ¬ t.kind = 3 := (by simpa using hc9) | have hn2 : ¬ t.kind = 2 := (by simpa using hc9)
   refine cy_region ?_
   refine sy_cmp rfl rfl rfl rfl rfl ?_
   refine sy_assign rfl rfl rfl ?_
   refine sy_nil rfl ?_
   refine ny_next ?_
   refine cy_cond rfl (fun hc9 => ?_) (fun hc9 => ?_)
   · have hk : t.kind = 3 ∨ t.kind = 2 := by first | exact .inl (by simpa using hc9) | exact .inr (by simpa using hc9)
     refine cy_seq ?_
     refine cy_region ?_
     refine sy_assign rfl rfl rfl ?_
     refine sy_nil rfl ?_
     refine ny_next ?_
     refine cy_ret ?_
     refine ny_blockR ?_
     refine ny_thenR ?_
     refine ny_finR (res1 rfl rfl) (fun w hs2 => ⟨?_, hs2.frm⟩)
     refine congrArg (fun b => Ending.returned (Value.bool b)) ?_
     rw [beginsR, if_pos hk]
   · first | have hn3 : ¬ t.kind = 3 := (by simpa using hc9) | have hn2 : ¬ t.kind = 2 := (by simpa using hc9)
     refine cy_seq ?_
     refine cy_region ?_
     refine sy_cmp rfl rfl rfl rfl rfl ?_
     refine sy_assign rfl rfl rfl ?_
     refine sy_nil rfl ?_
     refine ny_next ?_
     refine cy_cond rfl (fun hc12 => ?_) (fun hc12 => ?_)
     · have hk4 : t.kind = 4 := by simpa using hc12
       refine cy_seq ?_
       refine cy_region ?_
       refine sy_field fld_65_1 rfl rfl rfl ?_
       first | refine sy_ldr 0 one_9 rfl rfl rfl rfl rfl ?_
       refine sy_eqs rfl rfl rfl rfl ?_
       refine sy_move rfl rfl rfl ?_
       refine sy_cond (d := 17) _ rfl rfl (fun hg17 => ?_) (fun hg17 => ?_)
       · refine sy_skip rfl rfl rfl ?_
         refine sy_skip rfl rfl rfl ?_
         refine sy_skip rfl rfl rfl ?_
         refine sy_pickT rfl rfl rfl rfl ?_
         refine sy_assign rfl rfl rfl ?_
         refine sy_nil rfl ?_
         refine ny_next ?_
         refine cy_ret ?_
         refine ny_blockR ?_
         refine ny_thenR ?_
         refine ny_finR (res1 rfl rfl) (fun w hs2 => ⟨?_, hs2.frm⟩)
         refine congrArg (fun b => Ending.returned (Value.bool b)) ?_
         unfold beginsR
         rw [if_neg (by omega), if_pos hk4]
         first | (rw [hg17]; done) | (rw [hg17]; rfl)
       · refine sy_field fld_65_1 rfl rfl rfl ?_
         first | refine sy_ldr 0 one_9 rfl rfl rfl rfl rfl ?_
         refine sy_eqs rfl rfl rfl rfl ?_
         refine sy_pickF rfl rfl rfl rfl ?_
         refine sy_assign rfl rfl rfl ?_
         refine sy_nil rfl ?_
         refine ny_next ?_
         refine cy_ret ?_
         refine ny_blockR ?_
         refine ny_thenR ?_
         refine ny_finR (res1 rfl rfl) (fun w hs2 => ⟨?_, hs2.frm⟩)
         refine congrArg (fun b => Ending.returned (Value.bool b)) ?_
         unfold beginsR
         rw [if_neg (by omega), if_pos hk4]
         first | (rw [hg17]; done) | (rw [hg17]; rfl)
     · have hk4 : ¬ t.kind = 4 := by simpa using hc12
       refine cy_seq ?_
       refine cy_region ?_
       refine sy_cmp rfl rfl rfl rfl rfl ?_
       refine sy_assign rfl rfl rfl ?_
       refine sy_nil rfl ?_
       refine ny_next ?_
       refine cy_cond rfl (fun hc22 => ?_) (fun hc22 => ?_)
       · have hk1 : t.kind = 1 := by simpa using hc22
         refine cy_seq ?_
         refine cy_region ?_
         refine sy_field fld_65_1 rfl rfl rfl ?_
         first | refine sy_ldr 0 one_9 rfl rfl rfl rfl rfl ?_
         refine sy_call rfl call_70 rfl (infix_c t.str _) rfl rfl ?_
         refine sy_move rfl rfl rfl ?_
         refine sy_extract rfl rfl rfl rfl ?_
         refine sy_extract rfl rfl rfl rfl ?_
         refine sy_extract rfl rfl rfl rfl ?_
         refine sy_extract rfl rfl rfl rfl ?_
         refine sy_assign rfl rfl rfl ?_
         refine sy_assign rfl rfl rfl ?_
         refine sy_assign rfl rfl rfl ?_
         refine sy_assign rfl rfl rfl ?_
         refine sy_nil rfl ?_
         refine ny_next ?_
         refine cy_seq ?_
         refine cy_region ?_
         refine sy_field fld_65_3 rfl rfl rfl ?_
         first | refine sy_ldr 0 one_4 rfl rfl rfl rfl rfl ?_
         refine sy_move rfl rfl rfl ?_
         refine sy_cond (d := 34) _ rfl rfl (fun hg34 => ?_) (fun hg34 => ?_)
         · refine sy_skip rfl rfl rfl ?_
           refine sy_skip rfl rfl rfl ?_
           refine sy_pickT rfl rfl rfl rfl ?_
           refine sy_assign rfl rfl rfl ?_
           refine sy_nil rfl ?_
           refine ny_next ?_
           refine cy_ret ?_
           refine ny_blockR ?_
           refine ny_thenR ?_
           refine ny_finR (res1 rfl rfl) (fun w hs2 => ⟨?_, hs2.frm⟩)
           refine congrArg (fun b => Ending.returned (Value.bool b)) ?_
           unfold beginsR
           rw [if_neg (by omega), if_neg (by omega), if_pos hk1]
           first | (rw [hg34]; done) | (rw [hg34]; rfl)
         · refine sy_move rfl rfl rfl ?_
           refine sy_not rfl rfl rfl ?_
           refine sy_pickF rfl rfl rfl rfl ?_
           refine sy_assign rfl rfl rfl ?_
           refine sy_nil rfl ?_
           refine ny_next ?_
           refine cy_ret ?_
           refine ny_blockR ?_
           refine ny_thenR ?_
           refine ny_finR (res1 rfl rfl) (fun w hs2 => ⟨?_, hs2.frm⟩)
           refine congrArg (fun b => Ending.returned (Value.bool b)) ?_
           unfold beginsR
           rw [if_neg (by omega), if_neg (by omega), if_pos hk1]
           first | (rw [hg34]; done) | (rw [hg34]; rfl)
       · have hk1 : ¬ t.kind = 1 := by simpa using hc22
         refine cy_skip ?_
         refine ny_blockN ?_
         refine ny_next ?_
         refine cy_seq ?_
         refine cy_region ?_
         refine sy_assign rfl rfl rfl ?_
         refine sy_nil rfl ?_
         refine ny_next ?_
         refine cy_ret ?_
         refine ny_finR (res1 rfl rfl) (fun w hs2 => ⟨?_, hs2.frm⟩)
         refine congrArg (fun b => Ending.returned (Value.bool b)) ?_
         first | (unfold beginsR; rw [if_neg (by omega), if_neg (by omega), if_neg (by omega)]; done) | (exfalso; simp_all; done)
end Go.Proofs.YtanhhihechakhaaDoor
set_option linter.unusedVariables false
set_option linter.unusedSimpArgs false
namespace Go.Proofs.YtanhhihechakhaaDoor
open Go.RowKit Go.Proofs.YtanhhihechakhaaDoor.E Go.Proofs.YtanhhihechakhaaDoor.ReplP Go.Proofs.YtanhhihechakhaaDoor.TokP
set_option maxRecDepth 100000 in
theorem small_c (c : UInt8) (h : Hp) : C0 Tryd.prog 46 [.int .u8 (c.toNat : Int)] h (.bool (smallB c)) := by
 refine enter0 Tryd.func46 rfl rfl rfl (fun w => ?_)
 refine cy_seq ?_
 refine cy_region ?_
 refine sy_assign rfl rfl rfl ?_
 refine sy_nil rfl ?_
 refine ny_next ?_
 refine cy_seq ?_
 refine cy_region ?_
 refine sy_move rfl rfl rfl ?_
 refine sy_cmp rfl rfl rfl rfl rfl ?_
 refine sy_move rfl rfl rfl ?_
 refine sy_cond (d := 5) _ rfl rfl (fun hg5 => ?_) (fun hg5 => ?_)
 · refine sy_move rfl rfl rfl ?_
   refine sy_cmp rfl rfl rfl rfl rfl ?_
   refine sy_pickT rfl rfl rfl rfl ?_
   refine sy_assign rfl rfl rfl ?_
   refine sy_nil rfl ?_
   refine ny_next ?_
   refine cy_ret ?_
   refine ny_finR (res1 rfl rfl) (fun w hs => ⟨?_, hs.frm⟩)
   refine congrArg (fun b => Ending.returned (Value.bool b)) ?_
   unfold smallB
   first | rfl | (simp_all; done) | (simp_all; omega)
 · refine sy_skip rfl rfl rfl ?_
   refine sy_skip rfl rfl rfl ?_
   refine sy_pickF rfl rfl rfl rfl ?_
   refine sy_assign rfl rfl rfl ?_
   refine sy_nil rfl ?_
   refine ny_next ?_
   refine cy_ret ?_
   refine ny_finR (res1 rfl rfl) (fun w hs => ⟨?_, hs.frm⟩)
   refine congrArg (fun b => Ending.returned (Value.bool b)) ?_
   unfold smallB
   first | rfl | (simp_all; done) | (simp_all; omega)
set_option maxRecDepth 100000 in
theorem big_c (c : UInt8) (h : Hp) : C0 Tryd.prog 48 [.int .u8 (c.toNat : Int)] h (.bool (bigB c)) := by
 refine enter0 Tryd.func48 rfl rfl rfl (fun w => ?_)
 refine cy_seq ?_
 refine cy_region ?_
 refine sy_assign rfl rfl rfl ?_
 refine sy_nil rfl ?_
 refine ny_next ?_
 refine cy_seq ?_
 refine cy_region ?_
 refine sy_move rfl rfl rfl ?_
 refine sy_cmp rfl rfl rfl rfl rfl ?_
 refine sy_move rfl rfl rfl ?_
 refine sy_cond (d := 5) _ rfl rfl (fun hg5 => ?_) (fun hg5 => ?_)
 · refine sy_move rfl rfl rfl ?_
   refine sy_cmp rfl rfl rfl rfl rfl ?_
   refine sy_pickT rfl rfl rfl rfl ?_
   refine sy_move rfl rfl rfl ?_
   refine sy_cond (d := 9) _ rfl rfl (fun hg9 => ?_) (fun hg9 => ?_)
   · refine sy_skip rfl rfl rfl ?_
     refine sy_skip rfl rfl rfl ?_
     refine sy_pickT rfl rfl rfl rfl ?_
     refine sy_assign rfl rfl rfl ?_
     refine sy_nil rfl ?_
     refine ny_next ?_
     refine cy_ret ?_
     refine ny_finR (res1 rfl rfl) (fun w hs => ⟨?_, hs.frm⟩)
     refine congrArg (fun b => Ending.returned (Value.bool b)) ?_
     unfold bigB
     first | rfl | (simp_all; done) | (simp_all; omega)
   · refine sy_move rfl rfl rfl ?_
     refine sy_cmp rfl rfl rfl rfl rfl ?_
     refine sy_pickF rfl rfl rfl rfl ?_
     refine sy_assign rfl rfl rfl ?_
     refine sy_nil rfl ?_
     refine ny_next ?_
     refine cy_ret ?_
     refine ny_finR (res1 rfl rfl) (fun w hs => ⟨?_, hs.frm⟩)
     refine congrArg (fun b => Ending.returned (Value.bool b)) ?_
     unfold bigB
     first | rfl | (simp_all; done) | (simp_all; omega)
 · refine sy_skip rfl rfl rfl ?_
   refine sy_skip rfl rfl rfl ?_
   refine sy_pickF rfl rfl rfl rfl ?_
   refine sy_move rfl rfl rfl ?_
   refine sy_move rfl rfl rfl ?_
   refine sy_cmp rfl rfl rfl rfl rfl ?_
   refine sy_pickF rfl rfl rfl rfl ?_
   refine sy_assign rfl rfl rfl ?_
   refine sy_nil rfl ?_
   refine ny_next ?_
   refine cy_ret ?_
   refine ny_finR (res1 rfl rfl) (fun w hs => ⟨?_, hs.frm⟩)
   refine congrArg (fun b => Ending.returned (Value.bool b)) ?_
   unfold bigB
   first | rfl | (simp_all; done) | (simp_all; omega)
set_option maxRecDepth 100000 in
theorem digit_c (c : UInt8) (h : Hp) : C0 Tryd.prog 49 [.int .u8 (c.toNat : Int)] h (.bool (digitB c)) := by
 refine enter0 Tryd.func49 rfl rfl rfl (fun w => ?_)
 refine cy_seq ?_
 refine cy_region ?_
 refine sy_assign rfl rfl rfl ?_
 refine sy_nil rfl ?_
 refine ny_next ?_
 refine cy_seq ?_
 refine cy_region ?_
 refine sy_move rfl rfl rfl ?_
 refine sy_cmp rfl rfl rfl rfl rfl ?_
 refine sy_move rfl rfl rfl ?_
 refine sy_cond (d := 5) _ rfl rfl (fun hg5 => ?_) (fun hg5 => ?_)
 · refine sy_move rfl rfl rfl ?_
   refine sy_cmp rfl rfl rfl rfl rfl ?_
   refine sy_pickT rfl rfl rfl rfl ?_
   refine sy_assign rfl rfl rfl ?_
   refine sy_nil rfl ?_
   refine ny_next ?_
   refine cy_ret ?_
   refine ny_finR (res1 rfl rfl) (fun w hs => ⟨?_, hs.frm⟩)
   refine congrArg (fun b => Ending.returned (Value.bool b)) ?_
   unfold digitB
   first | rfl | (simp_all; done) | (simp_all; omega)
 · refine sy_skip rfl rfl rfl ?_
   refine sy_skip rfl rfl rfl ?_
   refine sy_pickF rfl rfl rfl rfl ?_
   refine sy_assign rfl rfl rfl ?_
   refine sy_nil rfl ?_
   refine ny_next ?_
   refine cy_ret ?_
   refine ny_finR (res1 rfl rfl) (fun w hs => ⟨?_, hs.frm⟩)
   refine congrArg (fun b => Ending.returned (Value.bool b)) ?_
   unfold digitB
   first | rfl | (simp_all; done) | (simp_all; omega)
set_option maxRecDepth 100000 in
theorem blank_c (c : UInt8) (h : Hp) : C0 Tryd.prog 45 [.int .u8 (c.toNat : Int)] h (.bool (blankB c)) := by
 refine enter0 Tryd.func45 rfl rfl rfl (fun w => ?_)
 refine cy_seq ?_
 refine cy_region ?_
 refine sy_assign rfl rfl rfl ?_
 refine sy_nil rfl ?_
 refine ny_next ?_
 refine cy_seq ?_
 refine cy_region ?_
 refine sy_move rfl rfl rfl ?_
 refine sy_cmp rfl rfl rfl rfl rfl ?_
 refine sy_move rfl rfl rfl ?_
 refine sy_cond (d := 5) _ rfl rfl (fun hg5 => ?_) (fun hg5 => ?_)
 · refine sy_skip rfl rfl rfl ?_
   refine sy_skip rfl rfl rfl ?_
   refine sy_pickT rfl rfl rfl rfl ?_
   refine sy_move rfl rfl rfl ?_
   refine sy_skip rfl rfl rfl ?_
   refine sy_skip rfl rfl rfl ?_
   refine sy_pickT rfl rfl rfl rfl ?_
   refine sy_move rfl rfl rfl ?_
   refine sy_skip rfl rfl rfl ?_
   refine sy_skip rfl rfl rfl ?_
   refine sy_pickT rfl rfl rfl rfl ?_
   refine sy_assign rfl rfl rfl ?_
   refine sy_nil rfl ?_
   refine ny_next ?_
   refine cy_ret ?_
   refine ny_finR (res1 rfl rfl) (fun w hs => ⟨?_, hs.frm⟩)
   refine congrArg (fun b => Ending.returned (Value.bool b)) ?_
   unfold blankB
   first | rfl | (simp_all; done) | (simp_all; omega)
 · refine sy_move rfl rfl rfl ?_
   refine sy_cmp rfl rfl rfl rfl rfl ?_
   refine sy_pickF rfl rfl rfl rfl ?_
   refine sy_move rfl rfl rfl ?_
   refine sy_cond (d := 9) _ rfl rfl (fun hg9 => ?_) (fun hg9 => ?_)
   · refine sy_skip rfl rfl rfl ?_
     refine sy_skip rfl rfl rfl ?_
     refine sy_pickT rfl rfl rfl rfl ?_
     refine sy_move rfl rfl rfl ?_
     refine sy_skip rfl rfl rfl ?_
     refine sy_skip rfl rfl rfl ?_
     refine sy_pickT rfl rfl rfl rfl ?_
     refine sy_assign rfl rfl rfl ?_
     refine sy_nil rfl ?_
     refine ny_next ?_
     refine cy_ret ?_
     refine ny_finR (res1 rfl rfl) (fun w hs => ⟨?_, hs.frm⟩)
     refine congrArg (fun b => Ending.returned (Value.bool b)) ?_
     unfold blankB
     first | rfl | (simp_all; done) | (simp_all; omega)
   · refine sy_move rfl rfl rfl ?_
     refine sy_cmp rfl rfl rfl rfl rfl ?_
     refine sy_pickF rfl rfl rfl rfl ?_
     refine sy_move rfl rfl rfl ?_
     refine sy_cond (d := 13) _ rfl rfl (fun hg13 => ?_) (fun hg13 => ?_)
     · refine sy_skip rfl rfl rfl ?_
       refine sy_skip rfl rfl rfl ?_
       refine sy_pickT rfl rfl rfl rfl ?_
       refine sy_assign rfl rfl rfl ?_
       refine sy_nil rfl ?_
       refine ny_next ?_
       refine cy_ret ?_
       refine ny_finR (res1 rfl rfl) (fun w hs => ⟨?_, hs.frm⟩)
       refine congrArg (fun b => Ending.returned (Value.bool b)) ?_
       unfold blankB
       first | rfl | (simp_all; done) | (simp_all; omega)
     · refine sy_move rfl rfl rfl ?_
       refine sy_cmp rfl rfl rfl rfl rfl ?_
       refine sy_pickF rfl rfl rfl rfl ?_
       refine sy_assign rfl rfl rfl ?_
       refine sy_nil rfl ?_
       refine ny_next ?_
       refine cy_ret ?_
       refine ny_finR (res1 rfl rfl) (fun w hs => ⟨?_, hs.frm⟩)
       refine congrArg (fun b => Ending.returned (Value.bool b)) ?_
       unfold blankB
       first | rfl | (simp_all; done) | (simp_all; omega)
set_option maxRecDepth 100000 in
theorem line_c (c : UInt8) (h : Hp) : C0 Tryd.prog 44 [.int .u8 (c.toNat : Int)] h (.bool (lineB c)) := by
 refine enter0 Tryd.func44 rfl rfl rfl (fun w => ?_)
 refine cy_seq ?_
 refine cy_region ?_
 refine sy_assign rfl rfl rfl ?_
 refine sy_nil rfl ?_
 refine ny_next ?_
 refine cy_seq ?_
 refine cy_region ?_
 refine sy_move rfl rfl rfl ?_
 refine sy_cmp rfl rfl rfl rfl rfl ?_
 refine sy_assign rfl rfl rfl ?_
 refine sy_nil rfl ?_
 refine ny_next ?_
 refine cy_ret ?_
 refine ny_finR (res1 rfl rfl) (fun w hs => ⟨?_, hs.frm⟩)
 refine congrArg (fun b => Ending.returned (Value.bool b)) ?_
 unfold lineB
 first | rfl | (simp_all; done) | (simp_all; omega)
set_option maxRecDepth 100000 in
theorem letter_c (c : UInt8) (h : Hp) : C0 Tryd.prog 47 [.int .u8 (c.toNat : Int)] h (.bool (letterB c)) := by
 refine enter0 Tryd.func47 rfl rfl rfl (fun w => ?_)
 refine cy_seq ?_
 refine cy_region ?_
 refine sy_assign rfl rfl rfl ?_
 refine sy_nil rfl ?_
 refine ny_next ?_
 refine cy_seq ?_
 refine cy_region ?_
 refine sy_move rfl rfl rfl ?_
 refine sy_call rfl call_46 rfl (small_c c _) rfl rfl ?_
 refine sy_move rfl rfl rfl ?_
 refine sy_cond (d := 5) _ rfl rfl (fun hg5 => ?_) (fun hg5 => ?_)
 · refine sy_skip rfl rfl rfl ?_
   refine sy_skip rfl rfl rfl ?_
   refine sy_pickT rfl rfl rfl rfl ?_
   refine sy_move rfl rfl rfl ?_
   refine sy_skip rfl rfl rfl ?_
   refine sy_skip rfl rfl rfl ?_
   refine sy_pickT rfl rfl rfl rfl ?_
   refine sy_assign rfl rfl rfl ?_
   refine sy_nil rfl ?_
   refine ny_next ?_
   refine cy_ret ?_
   refine ny_finR (res1 rfl rfl) (fun w hs => ⟨?_, hs.frm⟩)
   refine congrArg (fun b => Ending.returned (Value.bool b)) ?_
   unfold letterB
   first | rfl | (simp_all; done) | (simp_all; omega)
 · refine sy_move rfl rfl rfl ?_
   refine sy_call rfl call_48 rfl (big_c c _) rfl rfl ?_
   refine sy_pickF rfl rfl rfl rfl ?_
   refine sy_move rfl rfl rfl ?_
   refine sy_cond (d := 9) _ rfl rfl (fun hg9 => ?_) (fun hg9 => ?_)
   · refine sy_skip rfl rfl rfl ?_
     refine sy_skip rfl rfl rfl ?_
     refine sy_pickT rfl rfl rfl rfl ?_
     refine sy_assign rfl rfl rfl ?_
     refine sy_nil rfl ?_
     refine ny_next ?_
     refine cy_ret ?_
     refine ny_finR (res1 rfl rfl) (fun w hs => ⟨?_, hs.frm⟩)
     refine congrArg (fun b => Ending.returned (Value.bool b)) ?_
     unfold letterB
     first | rfl | (simp_all; done) | (simp_all; omega)
   · refine sy_move rfl rfl rfl ?_
     refine sy_call rfl call_49 rfl (digit_c c _) rfl rfl ?_
     refine sy_pickF rfl rfl rfl rfl ?_
     refine sy_assign rfl rfl rfl ?_
     refine sy_nil rfl ?_
     refine ny_next ?_
     refine cy_ret ?_
     refine ny_finR (res1 rfl rfl) (fun w hs => ⟨?_, hs.frm⟩)
     refine congrArg (fun b => Ending.returned (Value.bool b)) ?_
     unfold letterB
     first | rfl | (simp_all; done) | (simp_all; omega)
theorem ibX (s : ByteArray) (c : UInt8) (w : World) : (callFunc 72 #[.string s, .int .u8 (c.toNat : Int)]).run Tryd.prog w = .ok (.value (.int .i64 (Lib.indexByte s.data.toList c))) w := by
 have h1 := Lib.run_indexByteString (P := Tryd.prog) s (c.toNat : Int) w
 have e : (c.toNat : Int).toNat.toUInt8 = c := by simp
 rw [e] at h1
 exact ext_run Tryd.func72 (by kernel_rfl) (by kernel_rfl) (by kernel_rfl) (by kernel_rfl) h1
set_option maxRecDepth 100000 in
theorem ib2_c (s : ByteArray) (c : UInt8) (h : Hp) : C0 Tryd.prog 63 [.string s, .int .u8 (c.toNat : Int)] h (.int .i64 (Lib.indexByte s.data.toList c)) := by
 refine enter0 Tryd.func63 rfl rfl rfl (fun w => ?_)
 refine cy_seq ?_
 refine cy_region ?_
 refine sy_assign rfl rfl rfl ?_
 refine sy_nil rfl ?_
 refine ny_next ?_
 refine cy_seq ?_
 refine cy_region ?_
 refine sy_move rfl rfl rfl ?_
 refine sy_move rfl rfl rfl ?_
 refine sy_exq rfl (fun w hs => ibX s c w) rfl rfl ?_
 refine sy_assign rfl rfl rfl ?_
 refine sy_nil rfl ?_
 refine ny_next ?_
 refine cy_ret ?_
 refine ny_finR (res1 rfl rfl) (fun w hs => ⟨?_, hs.frm⟩)
 rfl
set_option maxRecDepth 100000 in
theorem ib_c (s : ByteArray) (c : UInt8) (h : Hp) : C0 Tryd.prog 52 [.string s, .int .u8 (c.toNat : Int)] h (.int .i64 (Lib.indexByte s.data.toList c)) := by
 refine enter0 Tryd.func52 rfl rfl rfl (fun w => ?_)
 refine cy_seq ?_
 refine cy_region ?_
 refine sy_assign rfl rfl rfl ?_
 refine sy_nil rfl ?_
 refine ny_next ?_
 refine cy_seq ?_
 refine cy_region ?_
 refine sy_move rfl rfl rfl ?_
 refine sy_move rfl rfl rfl ?_
 refine sy_call rfl call_63 rfl (ib2_c s c _) rfl rfl ?_
 refine sy_assign rfl rfl rfl ?_
 refine sy_nil rfl ?_
 refine ny_next ?_
 refine cy_ret ?_
 refine ny_finR (res1 rfl rfl) (fun w hs => ⟨?_, hs.frm⟩)
 rfl
set_option maxRecDepth 100000 in
theorem sign_c (c : UInt8) (h : Hp) : C0 Tryd.prog 54 [.int .u8 (c.toNat : Int)] h (.bool (signB c)) := by
 refine enter0 Tryd.func54 rfl rfl rfl (fun w => ?_)
 refine cy_seq ?_
 refine cy_region ?_
 refine sy_assign rfl rfl rfl ?_
 refine sy_nil rfl ?_
 refine ny_next ?_
 refine cy_seq ?_
 refine cy_region ?_
 refine sy_move rfl rfl rfl ?_
 refine sy_call rfl call_52 rfl (ib_c _ c _) rfl rfl ?_
 refine sy_cmp rfl rfl rfl rfl rfl ?_
 refine sy_assign rfl rfl rfl ?_
 refine sy_nil rfl ?_
 refine ny_next ?_
 refine cy_ret ?_
 refine ny_finR (res1 rfl rfl) (fun w hs => ⟨?_, hs.frm⟩)
 exact congrArg (fun b => Ending.returned (Value.bool b)) (idx_has signL c)
set_option maxRecDepth 100000 in
theorem row_c (s : ByteArray) (F : Nat) (p : UInt8 → Bool) (h : Hp) (hs : s.size ≤ 140737488355328) (hFB : callB Tryd.prog F = true) (hF : ∀ c h, C0 Tryd.prog F [.int .u8 (c.toNat : Int)] h (.bool (p c))) : C0 Tryd.prog 43 [.string s, .func (.func F) #[] #[]] h (.int .i64 ((runB p s.data.toList : Nat) : Int)) := by
 refine enter0 Tryd.func43 rfl rfl rfl (fun w => ?_)
 refine cy_seq ?_
 refine cy_region ?_
 refine sy_assign rfl rfl rfl ?_
 refine sy_nil rfl ?_
 refine ny_next ?_
 refine cy_seq ?_
 refine cy_region ?_
 refine sy_assign rfl rfl rfl ?_
 refine sy_nil rfl ?_
 refine ny_next ?_
 refine cy_seq ?_
 refine cy_block ?_
 refine cy_loopK (ι := Nat) [0, 1] rfl (fun i => i ≤ s.size ∧ (s.data.toList.take i).all p = true) (fun i => s.size - i) (fun i => [(5, .int .i64 (i : Int))]) (fun i => h) (fun i => []) 0 [] ⟨Nat.zero_le _, by simp⟩ ⟨rfl, trivial⟩ rfl rfl ?_
 rintro i ⟨hI, hpre⟩
 refine cy_seq ?_
 refine cy_seq ?_
 refine cy_region ?_
 refine sy_move rfl rfl rfl ?_
 refine sy_move rfl rfl rfl ?_
 refine sy_len rfl (len_string Tryd.underlying9 _) rfl rfl ?_
 refine sy_cmp rfl rfl rfl rfl rfl ?_
 refine sy_move rfl rfl rfl ?_
 refine sy_cond (d := 10) _ rfl rfl (fun hg10 => ?_) (fun hg10 => ?_)
 · have hlti : i < s.size := by have := of_decide_eq_true hg10; omega
   obtain ⟨e0, he0⟩ : ∃ e0, s.data.toList[i]? = some e0 := ⟨_, List.getElem?_eq_getElem (by show i < s.size; omega)⟩
   refine sy_move rfl rfl rfl ?_
   refine sy_move rfl rfl rfl ?_
   refine sy_move rfl rfl rfl ?_
   refine sy_idxs (u := e0) Tryd.underlying9 rfl rfl (by omega) (ba_at he0) rfl rfl ?_
   refine sy_callv rfl hFB (caps := []) rfl rfl (hF e0 _) rfl rfl ?_
   refine sy_pickT rfl rfl rfl rfl ?_
   refine sy_nil rfl ?_
   refine ny_next ?_
   refine cy_cond rfl (fun hc16 => ?_) (fun hc16 => ?_)
   · refine cy_skip ?_
     refine ny_next ?_
     refine cy_block ?_
     refine cy_region ?_
     refine sy_move rfl rfl rfl ?_
     refine sy_addi (z := ((i + 1 : Nat) : Int)) rfl rfl (by omega) (by omega) (by omega) rfl rfl ?_
     refine sy_assign rfl rfl rfl ?_
     refine sy_nil rfl ?_
     refine ny_blockN ?_
     refine ny_roundK [0, 1] (i + 1) [] ⟨by omega, by rw [all_snoc he0, hpre, hc16]; rfl⟩ (show s.size - (i + 1) < s.size - i by omega) rfl ⟨rfl, trivial⟩ rfl rfl
   · refine cy_exit ?_
     refine ny_thenE ?_
     refine ny_thenE ?_
     refine ny_blockX ?_
     refine ny_next ?_
     refine cy_seq ?_
     refine cy_region ?_
     refine sy_move rfl rfl rfl ?_
     refine sy_assign rfl rfl rfl ?_
     refine sy_nil rfl ?_
     refine ny_next ?_
     refine cy_ret ?_
     refine ny_finR (res1 rfl rfl) (fun w hs2 => ⟨?_, hs2.frm⟩)
     first | (rw [run_at hpre he0 hc16]) | (rw [run_end hpre (by show s.size ≤ i; exact hge)]; refine congrArg (fun z : Nat => Ending.returned (Value.int .i64 (z : Int))) ?_; show i = s.size; omega)
 · have hge : s.size ≤ i := by have := of_decide_eq_false hg10; omega
   refine sy_skip rfl rfl rfl ?_
   refine sy_skip rfl rfl rfl ?_
   refine sy_skip rfl rfl rfl ?_
   refine sy_skip rfl rfl rfl ?_
   refine sy_skip rfl rfl rfl ?_
   refine sy_pickF rfl rfl rfl rfl ?_
   refine sy_nil rfl ?_
   refine ny_next ?_
   refine cy_condF rfl ?_
   refine cy_exit ?_
   refine ny_thenE ?_
   refine ny_thenE ?_
   refine ny_blockX ?_
   refine ny_next ?_
   refine cy_seq ?_
   refine cy_region ?_
   refine sy_move rfl rfl rfl ?_
   refine sy_assign rfl rfl rfl ?_
   refine sy_nil rfl ?_
   refine ny_next ?_
   refine cy_ret ?_
   refine ny_finR (res1 rfl rfl) (fun w hs2 => ⟨?_, hs2.frm⟩)
   first | (rw [run_at hpre he0 hc16]) | (rw [run_end hpre (by show s.size ≤ i; exact hge)]; refine congrArg (fun z : Nat => Ending.returned (Value.int .i64 (z : Int))) ?_; show i = s.size; omega)
end Go.Proofs.YtanhhihechakhaaDoor
set_option linter.unusedVariables false
set_option linter.unusedSimpArgs false
namespace Go.Proofs.YtanhhihechakhaaDoor
open Go.RowKit Go.Proofs.YtanhhihechakhaaDoor.E Go.Proofs.YtanhhihechakhaaDoor.ReplP Go.Proofs.YtanhhihechakhaaDoor.TokP
set_option maxRecDepth 100000 in
theorem skip_c (s : ByteArray) (h : Hp) (hs : s.size ≤ 70368744177600) : C0 Tryd.prog 32 [.string s] h (.int .i64 ((skipN s.data.toList : Nat) : Int)) := by
 refine enter0 Tryd.func32 rfl rfl rfl (fun w => ?_)
 refine cy_seq ?_
 refine cy_region ?_
 refine sy_assign rfl rfl rfl ?_
 refine sy_nil rfl ?_
 refine ny_next ?_
 refine cy_seq ?_
 refine cy_region ?_
 refine sy_assign rfl rfl rfl ?_
 refine sy_nil rfl ?_
 refine ny_next ?_
 refine cy_seq ?_
 refine cy_block ?_
 refine cy_loopK (ι := Nat) [0] rfl (fun i => i ≤ s.size ∧ i + skipN (s.data.toList.drop i) = skipN s.data.toList) (fun i => s.size - i) (fun i => [(3, .int .i64 (i : Int))]) (fun i => h) (fun i => []) 0 [] ⟨Nat.zero_le _, by simp⟩ ⟨rfl, trivial⟩ rfl rfl ?_
 rintro i ⟨hI, hpre⟩
 have hsz : s.data.toList.length = s.size := rfl
 refine cy_seq ?_
 refine cy_seq ?_
 refine cy_region ?_
 refine sy_move rfl rfl rfl ?_
 refine sy_move rfl rfl rfl ?_
 refine sy_len rfl (len_string Tryd.underlying9 _) rfl rfl ?_
 refine sy_cmp rfl rfl rfl rfl rfl ?_
 refine sy_nil rfl ?_
 refine ny_next ?_
 refine cy_cond rfl (fun hc8 => ?_) (fun hc8 => ?_)
 · have hlti : i < s.size := by have := of_decide_eq_true hc8; omega
   obtain ⟨e0, he0⟩ : ∃ e0, s.data.toList[i]? = some e0 := ⟨_, List.getElem?_eq_getElem (by show i < s.size; omega)⟩
   refine cy_skip ?_
   refine ny_next ?_
   refine cy_block ?_
   refine cy_seq ?_
   refine cy_region ?_
   refine sy_move rfl rfl rfl ?_
   refine sy_move rfl rfl rfl ?_
   refine sy_idxs (u := e0) Tryd.underlying9 rfl rfl (by omega) (ba_at he0) rfl rfl ?_
   refine sy_assign rfl rfl rfl ?_
   refine sy_nil rfl ?_
   refine ny_next ?_
   refine cy_block ?_
   refine cy_seq ?_
   refine cy_block ?_
   refine cy_seq ?_
   refine cy_block ?_
   refine cy_seq ?_
   refine cy_block ?_
   refine cy_seq ?_
   refine cy_seq ?_
   refine cy_seq ?_
   refine cy_region ?_
   refine sy_move rfl rfl rfl ?_
   refine sy_cmp rfl rfl rfl rfl rfl ?_
   refine sy_assign rfl rfl rfl ?_
   refine sy_nil rfl ?_
   refine ny_next ?_
   refine cy_cond rfl (fun hc12 => ?_) (fun hc12 => ?_)
   · have h37 : e0 = 37 := UInt8.toNat_inj.1 (by have h9 : (e0.toNat : Int) = 37 := (by simpa using hc12); show e0.toNat = 37; omega)
     refine cy_exit ?_
     refine ny_thenE ?_
     refine ny_thenE ?_
     refine ny_blockX ?_
     refine ny_next ?_
     refine cy_seq ?_
     refine cy_region ?_
     refine sy_move rfl rfl rfl ?_
     refine sy_move rfl rfl rfl ?_
     refine sy_move rfl rfl rfl ?_
     refine sy_strfrom Tryd.underlying9 rfl rfl (by omega) rfl rfl ?_
     have hxs : (s.extract i s.size).size ≤ 140737488355328 := by
      have h9 : (s.extract i s.size).size = (s.extract i s.size).data.toList.length := rfl
      rw [h9, ext_from, List.length_drop]
      omega
     refine sy_call rfl call_43 rfl (row_c (s.extract i s.size) 44 lineB _ hxs call_44 (fun c h => line_c c h)) rfl rfl ?_
     rw [ext_from]
     have hrl := runB_le lineB (s.data.toList.drop i)
     rw [List.length_drop] at hrl
     refine sy_addi (z := ((i + runB lineB (s.data.toList.drop i) : Nat) : Int)) rfl rfl (by omega) (by omega) (by omega) rfl rfl ?_
     refine sy_assign rfl rfl rfl ?_
     refine sy_nil rfl ?_
     refine ny_next ?_
     refine cy_seq ?_
     refine cy_region ?_
     refine sy_move rfl rfl rfl ?_
     refine sy_move rfl rfl rfl ?_
     refine sy_len rfl (len_string Tryd.underlying9 _) rfl rfl ?_
     refine sy_cmp rfl rfl rfl rfl rfl ?_
     refine sy_nil rfl ?_
     refine ny_next ?_
     refine cy_cond rfl (fun hc27 => ?_) (fun hc27 => ?_)
     · refine cy_seq ?_
       refine cy_region ?_
       refine sy_move rfl rfl rfl ?_
       refine sy_assign rfl rfl rfl ?_
       refine sy_nil rfl ?_
       refine ny_next ?_
       refine cy_ret ?_
       refine ny_blockR ?_
       refine ny_thenR ?_
       refine ny_blockR ?_
       refine ny_thenR ?_
       refine ny_blockR ?_
       refine ny_blockR ?_
       refine ny_thenR ?_
       refine ny_blockR ?_
       refine ny_thenR ?_
       refine ny_finR (res1 rfl rfl) (fun w hs2 => ⟨?_, hs2.frm⟩)
       refine congrArg (fun z : Nat => Ending.returned (Value.int .i64 (z : Int))) ?_
       have hnl : i + runB lineB (s.data.toList.drop i) = s.size := by have h9 := eq_of_beq hc27; omega
       have h8 := skip_last he0 h37 hnl
       omega
     · have hnl : ¬ i + runB lineB (s.data.toList.drop i) = s.size := by
        intro h9
        rw [h9] at hc27
        simp at hc27
       have hsk := skip_remark he0 h37 hnl
       refine cy_skip ?_
       refine ny_blockN ?_
       refine ny_next ?_
       refine cy_seq ?_
       refine cy_region ?_
       refine sy_move rfl rfl rfl ?_
       refine sy_addi (z := ((i + runB lineB (s.data.toList.drop i) + 1 : Nat) : Int)) rfl rfl (by omega) (by omega) (by omega) rfl rfl ?_
       refine sy_assign rfl rfl rfl ?_
       refine sy_nil rfl ?_
       refine ny_next ?_
       refine cy_exit ?_
       refine ny_blockY rfl ?_
       refine ny_thenE ?_
       refine ny_blockX ?_
       refine ny_blockN ?_
       refine ny_roundK [0] (i + runB lineB (s.data.toList.drop i) + 1) [] ⟨hsk.1, hsk.2.trans hpre⟩ (by have := hsk.1; show s.size - (i + runB lineB (s.data.toList.drop i) + 1) < s.size - i; omega) rfl ⟨rfl, trivial⟩ rfl rfl
   · have h37 : ¬ e0 = 37 := by
      intro h9
      rw [h9] at hc12
      simp at hc12
     refine cy_skip ?_
     refine ny_next ?_
     refine cy_seq ?_
     refine cy_region ?_
     refine sy_move rfl rfl rfl ?_
     refine sy_call rfl call_45 rfl (blank_c e0 _) rfl rfl ?_
     refine sy_assign rfl rfl rfl ?_
     refine sy_nil rfl ?_
     refine ny_next ?_
     refine cy_cond rfl (fun hc15 => ?_) (fun hc15 => ?_)
     · refine cy_exit ?_
       refine ny_thenE ?_
       refine ny_blockY rfl ?_
       refine ny_thenE ?_
       refine ny_blockX ?_
       refine ny_next ?_
       refine cy_seq ?_
       refine cy_region ?_
       refine sy_move rfl rfl rfl ?_
       refine sy_addi (z := ((i + 1 : Nat) : Int)) rfl rfl (by omega) (by omega) (by omega) rfl rfl ?_
       refine sy_assign rfl rfl rfl ?_
       refine sy_nil rfl ?_
       refine ny_next ?_
       refine cy_exit ?_
       refine ny_blockY rfl ?_
       refine ny_thenE ?_
       refine ny_blockX ?_
       refine ny_blockN ?_
       refine ny_roundK [0] (i + 1) [] ⟨by omega, (skip_blank he0 h37 hc15).trans hpre⟩ (show s.size - (i + 1) < s.size - i by omega) rfl ⟨rfl, trivial⟩ rfl rfl
     · refine cy_skip ?_
       refine ny_next ?_
       refine cy_exit ?_
       refine ny_blockY rfl ?_
       refine ny_thenE ?_
       refine ny_blockY rfl ?_
       refine ny_thenE ?_
       refine ny_blockX ?_
       refine ny_next ?_
       refine cy_seq ?_
       refine cy_seq ?_
       refine cy_region ?_
       refine sy_move rfl rfl rfl ?_
       refine sy_assign rfl rfl rfl ?_
       refine sy_nil rfl ?_
       refine ny_next ?_
       refine cy_ret ?_
       refine ny_thenR ?_
       refine ny_blockR ?_
       refine ny_blockR ?_
       refine ny_thenR ?_
       refine ny_blockR ?_
       refine ny_thenR ?_
       refine ny_finR (res1 rfl rfl) (fun w hs2 => ⟨?_, hs2.frm⟩)
       refine congrArg (fun z : Nat => Ending.returned (Value.int .i64 (z : Int))) ?_
       have h8 := skip_stop he0 h37 hc15
       omega
 · have hie : i = s.size := by have := of_decide_eq_false hc8; omega
   subst hie
   refine cy_exit ?_
   refine ny_thenE ?_
   refine ny_thenE ?_
   refine ny_blockX ?_
   refine ny_next ?_
   refine cy_seq ?_
   refine cy_region ?_
   refine sy_move rfl rfl rfl ?_
   refine sy_assign rfl rfl rfl ?_
   refine sy_nil rfl ?_
   refine ny_next ?_
   refine cy_ret ?_
   refine ny_finR (res1 rfl rfl) (fun w hs2 => ⟨?_, hs2.frm⟩)
   refine congrArg (fun z : Nat => Ending.returned (Value.int .i64 (z : Int))) ?_
   rw [show s.data.toList.drop s.size = [] from List.drop_eq_nil_of_le (Nat.le_refl _), skip_nil] at hpre
   exact hpre
set_option maxRecDepth 100000 in
theorem hp2_c (s : ByteArray) (h : Hp) (hs : s.size ≤ 70368744177600) : C0 Tryd.prog 73 [.string s, .string ⟨#[46]⟩] h (.bool (pointB s.data.toList)) := by
 refine enter0 Tryd.func73 rfl rfl rfl (fun w => ?_)
 refine cy_seq ?_
 refine cy_region ?_
 refine sy_assign rfl rfl rfl ?_
 refine sy_nil rfl ?_
 refine ny_next ?_
 refine cy_seq ?_
 refine cy_region ?_
 refine sy_move rfl rfl rfl ?_
 refine sy_len rfl (len_string Tryd.underlying9 _) rfl rfl ?_
 refine sy_move rfl rfl rfl ?_
 refine sy_len rfl (len_string Tryd.underlying9 _) rfl rfl ?_
 refine sy_cmp rfl rfl rfl rfl rfl ?_
 refine sy_move rfl rfl rfl ?_
 refine sy_cond (d := 10) _ rfl rfl (fun hg10 => ?_) (fun hg10 => ?_)
 · refine sy_move rfl rfl rfl ?_
   refine sy_move rfl rfl rfl ?_
   refine sy_len rfl (len_string Tryd.underlying9 _) rfl rfl ?_
   refine sy_strto (hi := 1) Tryd.underlying9 rfl rfl (by have := of_decide_eq_true hg10; have h8 : (⟨#[46]⟩ : ByteArray).size = 1 := rfl; omega) rfl rfl ?_
   refine sy_move rfl rfl rfl ?_
   refine sy_eqs rfl rfl rfl rfl ?_
   refine sy_pickT rfl rfl rfl rfl ?_
   refine sy_assign rfl rfl rfl ?_
   refine sy_nil rfl ?_
   refine ny_next ?_
   refine cy_ret ?_
   refine ny_finR (res1 rfl rfl) (fun w hs2 => ⟨?_, hs2.frm⟩)
   refine congrArg (fun b => Ending.returned (Value.bool b)) ?_
   first | (rw [ext_to]; exact point_take _) | exact (point_nil (by have h9 := of_decide_eq_false hg10; have h8 : (⟨#[46]⟩ : ByteArray).size = 1 := rfl; have h7 : s.data.toList.length = s.size := rfl; omega)).symm
 · refine sy_skip rfl rfl rfl ?_
   refine sy_skip rfl rfl rfl ?_
   refine sy_skip rfl rfl rfl ?_
   refine sy_skip rfl rfl rfl ?_
   refine sy_skip rfl rfl rfl ?_
   refine sy_skip rfl rfl rfl ?_
   refine sy_pickF rfl rfl rfl rfl ?_
   refine sy_assign rfl rfl rfl ?_
   refine sy_nil rfl ?_
   refine ny_next ?_
   refine cy_ret ?_
   refine ny_finR (res1 rfl rfl) (fun w hs2 => ⟨?_, hs2.frm⟩)
   refine congrArg (fun b => Ending.returned (Value.bool b)) ?_
   first | (rw [ext_to]; exact point_take _) | exact (point_nil (by have h9 := of_decide_eq_false hg10; have h8 : (⟨#[46]⟩ : ByteArray).size = 1 := rfl; have h7 : s.data.toList.length = s.size := rfl; omega)).symm
set_option maxRecDepth 100000 in
theorem hp_c (s : ByteArray) (h : Hp) (hs : s.size ≤ 70368744177600) : C0 Tryd.prog 64 [.string s, .string ⟨#[46]⟩] h (.bool (pointB s.data.toList)) := by
 refine enter0 Tryd.func64 rfl rfl rfl (fun w => ?_)
 refine cy_seq ?_
 refine cy_region ?_
 refine sy_assign rfl rfl rfl ?_
 refine sy_nil rfl ?_
 refine ny_next ?_
 refine cy_seq ?_
 refine cy_region ?_
 refine sy_move rfl rfl rfl ?_
 refine sy_move rfl rfl rfl ?_
 refine sy_call rfl call_73 rfl (hp2_c s _ hs) rfl rfl ?_
 refine sy_assign rfl rfl rfl ?_
 refine sy_nil rfl ?_
 refine ny_next ?_
 refine cy_ret ?_
 refine ny_finR (res1 rfl rfl) (fun w hs => ⟨?_, hs.frm⟩)
 rfl
set_option maxRecDepth 100000 in
theorem ends_c (s : ByteArray) (h : Hp) (hs : s.size ≤ 70368744177600) : C0 Tryd.prog 53 [.string s] h (.bool (endsB s.data.toList)) := by
 refine enter0 Tryd.func53 rfl rfl rfl (fun w => ?_)
 refine cy_seq ?_
 refine cy_region ?_
 refine sy_assign rfl rfl rfl ?_
 refine sy_nil rfl ?_
 refine ny_next ?_
 refine cy_seq ?_
 refine cy_region ?_
 refine sy_move rfl rfl rfl ?_
 refine sy_call rfl call_64 rfl (hp_c s _ hs) rfl rfl ?_
 refine sy_move rfl rfl rfl ?_
 refine sy_cond (d := 5) _ rfl rfl (fun hg5 => ?_) (fun hg5 => ?_)
 · refine sy_move rfl rfl rfl ?_
   refine sy_len rfl (len_string Tryd.underlying9 _) rfl rfl ?_
   refine sy_cmp rfl rfl rfl rfl rfl ?_
   refine sy_move rfl rfl rfl ?_
   refine sy_cond (d := 9) _ rfl rfl (fun hg9 => ?_) (fun hg9 => ?_)
   · refine sy_skip rfl rfl rfl ?_
     refine sy_skip rfl rfl rfl ?_
     refine sy_skip rfl rfl rfl ?_
     refine sy_pickT rfl rfl rfl rfl ?_
     refine sy_move rfl rfl rfl ?_
     refine sy_skip rfl rfl rfl ?_
     refine sy_skip rfl rfl rfl ?_
     refine sy_skip rfl rfl rfl ?_
     refine sy_pickT rfl rfl rfl rfl ?_
     refine sy_pickT rfl rfl rfl rfl ?_
     refine sy_assign rfl rfl rfl ?_
     refine sy_nil rfl ?_
     refine ny_next ?_
     refine cy_ret ?_
     refine ny_finR (res1 rfl rfl) (fun w hs2 => ⟨?_, hs2.frm⟩)
     refine congrArg (fun b => Ending.returned (Value.bool b)) ?_
     have h7 : ((s.data.toList.length : Int) == 1) = ((s.size : Int) == 1) := rfl
     unfold endsB
     rw [h7, hg5]
     first | rfl | (rw [hg9, he0]; show _ = (true && (false || (blankB e0 || ((e0.toNat : Int) == 37)))); rw [hg14]; rfl) | (rw [hg9]; rfl)
   · have hsz1 : s.data.toList.length = s.size := rfl
     have hp1 := point_some hg5
     obtain ⟨e0, he0⟩ : ∃ e0, s.data.toList[1]? = some e0 := ⟨_, List.getElem?_eq_getElem (by have h9 : ¬ (s.size : Int) = 1 := (by simpa using hg9); omega)⟩
     refine sy_move rfl rfl rfl ?_
     refine sy_idxs (u := e0) Tryd.underlying9 rfl rfl (by omega) (ba_at (i := 1) he0) rfl rfl ?_
     refine sy_call rfl call_45 rfl (blank_c e0 _) rfl rfl ?_
     refine sy_pickF rfl rfl rfl rfl ?_
     refine sy_move rfl rfl rfl ?_
     refine sy_cond (d := 14) _ rfl rfl (fun hg14 => ?_) (fun hg14 => ?_)
     · refine sy_skip rfl rfl rfl ?_
       refine sy_skip rfl rfl rfl ?_
       refine sy_skip rfl rfl rfl ?_
       refine sy_pickT rfl rfl rfl rfl ?_
       refine sy_pickT rfl rfl rfl rfl ?_
       refine sy_assign rfl rfl rfl ?_
       refine sy_nil rfl ?_
       refine ny_next ?_
       refine cy_ret ?_
       refine ny_finR (res1 rfl rfl) (fun w hs2 => ⟨?_, hs2.frm⟩)
       refine congrArg (fun b => Ending.returned (Value.bool b)) ?_
       have h7 : ((s.data.toList.length : Int) == 1) = ((s.size : Int) == 1) := rfl
       unfold endsB
       rw [h7, hg5]
       first | rfl | (rw [hg9, he0]; show _ = (true && (false || (blankB e0 || ((e0.toNat : Int) == 37)))); rw [hg14]; rfl) | (rw [hg9]; rfl)
     · refine sy_move rfl rfl rfl ?_
       refine sy_idxs (u := e0) Tryd.underlying9 rfl rfl (by omega) (ba_at (i := 1) he0) rfl rfl ?_
       refine sy_cmp rfl rfl rfl rfl rfl ?_
       refine sy_pickF rfl rfl rfl rfl ?_
       refine sy_pickT rfl rfl rfl rfl ?_
       refine sy_assign rfl rfl rfl ?_
       refine sy_nil rfl ?_
       refine ny_next ?_
       refine cy_ret ?_
       refine ny_finR (res1 rfl rfl) (fun w hs2 => ⟨?_, hs2.frm⟩)
       refine congrArg (fun b => Ending.returned (Value.bool b)) ?_
       have h7 : ((s.data.toList.length : Int) == 1) = ((s.size : Int) == 1) := rfl
       unfold endsB
       rw [h7, hg5]
       first | rfl | (rw [hg9, he0]; show _ = (true && (false || (blankB e0 || ((e0.toNat : Int) == 37)))); rw [hg14]; rfl) | (rw [hg9]; rfl)
 · refine sy_skip rfl rfl rfl ?_
   refine sy_skip rfl rfl rfl ?_
   refine sy_skip rfl rfl rfl ?_
   refine sy_skip rfl rfl rfl ?_
   refine sy_skip rfl rfl rfl ?_
   refine sy_skip rfl rfl rfl ?_
   refine sy_skip rfl rfl rfl ?_
   refine sy_skip rfl rfl rfl ?_
   refine sy_skip rfl rfl rfl ?_
   refine sy_skip rfl rfl rfl ?_
   refine sy_skip rfl rfl rfl ?_
   refine sy_skip rfl rfl rfl ?_
   refine sy_skip rfl rfl rfl ?_
   refine sy_pickF rfl rfl rfl rfl ?_
   refine sy_assign rfl rfl rfl ?_
   refine sy_nil rfl ?_
   refine ny_next ?_
   refine cy_ret ?_
   refine ny_finR (res1 rfl rfl) (fun w hs2 => ⟨?_, hs2.frm⟩)
   refine congrArg (fun b => Ending.returned (Value.bool b)) ?_
   have h7 : ((s.data.toList.length : Int) == 1) = ((s.size : Int) == 1) := rfl
   unfold endsB
   rw [h7, hg5]
   first | rfl | (rw [hg9, he0]; show _ = (true && (false || (blankB e0 || ((e0.toNat : Int) == 37)))); rw [hg14]; rfl) | (rw [hg9]; rfl)
set_option maxRecDepth 100000 in
theorem esc_c (c : UInt8) (h : Hp) : C0 Tryd.prog 62 [.int .u8 (c.toNat : Int)] h (.tuple #[.int .u8 (((esc c).getD 0).toNat : Int), .bool (esc c).isSome]) := by
 refine enter0 Tryd.func62 rfl rfl rfl (fun w => ?_)
 refine cy_seq ?_
 refine cy_region ?_
 refine sy_assign rfl rfl rfl ?_
 refine sy_assign rfl rfl rfl ?_
 refine sy_nil rfl ?_
 refine ny_next ?_
 refine cy_seq ?_
 refine cy_seq ?_
 refine cy_region ?_
 refine sy_move rfl rfl rfl ?_
 refine sy_nil rfl ?_
 refine ny_next ?_
 refine cy_block ?_
 refine cy_seq ?_
 refine cy_seq ?_
 refine cy_region ?_
 refine sy_cmp rfl rfl rfl rfl rfl ?_
 refine sy_assign rfl rfl rfl ?_
 refine sy_nil rfl ?_
 refine ny_next ?_
 refine cy_cond rfl (fun hc5 => ?_) (fun hc5 => ?_)
 · refine cy_skip ?_
   refine ny_next ?_
   refine cy_cond rfl (fun hc5 => ?_) (fun hc5 => ?_)
   · refine cy_seq ?_
     refine cy_region ?_
     refine sy_move rfl rfl rfl ?_
     refine sy_assign rfl rfl rfl ?_
     refine sy_assign rfl rfl rfl ?_
     refine sy_nil rfl ?_
     refine ny_next ?_
     refine cy_ret ?_
     refine ny_blockR ?_
     refine ny_thenR ?_
     refine ny_finR (res2 rfl rfl rfl) (fun w hs2 => ⟨?_, hs2.frm⟩)
     unfold esc
     first | (rw [if_pos (by assumption)]; done) | (simp_all; done)
   · refine cy_seq ?_
     refine cy_region ?_
     refine sy_cmp rfl rfl rfl rfl rfl ?_
     refine sy_assign rfl rfl rfl ?_
     refine sy_nil rfl ?_
     refine ny_next ?_
     refine cy_cond rfl (fun hc9 => ?_) (fun hc9 => ?_)
     · refine cy_seq ?_
       refine cy_region ?_
       refine sy_assign rfl rfl rfl ?_
       refine sy_assign rfl rfl rfl ?_
       refine sy_nil rfl ?_
       refine ny_next ?_
       refine cy_ret ?_
       refine ny_blockR ?_
       refine ny_thenR ?_
       refine ny_finR (res2 rfl rfl rfl) (fun w hs2 => ⟨?_, hs2.frm⟩)
       unfold esc
       first | (rw [if_pos (by assumption)]; done) | (simp_all; done)
     · refine cy_skip ?_
       refine ny_blockN ?_
       refine ny_next ?_
       refine cy_seq ?_
       refine cy_region ?_
       refine sy_assign rfl rfl rfl ?_
       refine sy_assign rfl rfl rfl ?_
       refine sy_nil rfl ?_
       refine ny_next ?_
       refine cy_ret ?_
       refine ny_finR (res2 rfl rfl rfl) (fun w hs2 => ⟨?_, hs2.frm⟩)
       unfold esc
       first | (rw [if_pos (by assumption)]; done) | (simp_all; done)
 · refine cy_region ?_
   refine sy_cmp rfl rfl rfl rfl rfl ?_
   refine sy_assign rfl rfl rfl ?_
   refine sy_nil rfl ?_
   refine ny_next ?_
   refine cy_cond rfl (fun hc5 => ?_) (fun hc5 => ?_)
   · refine cy_seq ?_
     refine cy_region ?_
     refine sy_move rfl rfl rfl ?_
     refine sy_assign rfl rfl rfl ?_
     refine sy_assign rfl rfl rfl ?_
     refine sy_nil rfl ?_
     refine ny_next ?_
     refine cy_ret ?_
     refine ny_blockR ?_
     refine ny_thenR ?_
     refine ny_finR (res2 rfl rfl rfl) (fun w hs2 => ⟨?_, hs2.frm⟩)
     unfold esc
     first | (rw [if_pos (by assumption)]; done) | (simp_all; done)
   · refine cy_seq ?_
     refine cy_region ?_
     refine sy_cmp rfl rfl rfl rfl rfl ?_
     refine sy_assign rfl rfl rfl ?_
     refine sy_nil rfl ?_
     refine ny_next ?_
     refine cy_cond rfl (fun hc9 => ?_) (fun hc9 => ?_)
     · refine cy_seq ?_
       refine cy_region ?_
       refine sy_assign rfl rfl rfl ?_
       refine sy_assign rfl rfl rfl ?_
       refine sy_nil rfl ?_
       refine ny_next ?_
       refine cy_ret ?_
       refine ny_blockR ?_
       refine ny_thenR ?_
       refine ny_finR (res2 rfl rfl rfl) (fun w hs2 => ⟨?_, hs2.frm⟩)
       unfold esc
       first | (rw [if_pos (by assumption)]; done) | (simp_all; done)
     · refine cy_skip ?_
       refine ny_blockN ?_
       refine ny_next ?_
       refine cy_seq ?_
       refine cy_region ?_
       refine sy_assign rfl rfl rfl ?_
       refine sy_assign rfl rfl rfl ?_
       refine sy_nil rfl ?_
       refine ny_next ?_
       refine cy_ret ?_
       refine ny_finR (res2 rfl rfl rfl) (fun w hs2 => ⟨?_, hs2.frm⟩)
       unfold esc
       first | (rw [if_pos (by assumption)]; done) | (simp_all; done)
set_option maxRecDepth 100000 in
theorem bad_c (w : ByteArray) (e : Int) (h : Hp) : C0 Tryd.prog 31 [.string w, .int .i64 e] h (.iface 84 (.agg #[.string w, .int .i64 e])) := by
 refine enter0 Tryd.func31 rfl rfl rfl (fun w => ?_)
 refine cy_seq ?_
 refine cy_region ?_
 refine sy_assign rfl rfl rfl ?_
 refine sy_nil rfl ?_
 refine ny_next ?_
 refine cy_seq ?_
 refine cy_region ?_
 refine sy_move rfl rfl rfl ?_
 refine sy_move rfl rfl rfl ?_
 refine sy_build rfl (fun w => bld_84_0x1 w) rfl rfl ?_
 refine sy_iface Tryd.underlying84 rfl rfl rfl rfl ?_
 refine sy_assign rfl rfl rfl ?_
 refine sy_nil rfl ?_
 refine ny_next ?_
 refine cy_ret ?_
 refine ny_finR (res1 rfl rfl) (fun w hs => ⟨?_, hs.frm⟩)
 rfl
end Go.Proofs.YtanhhihechakhaaDoor
set_option linter.unusedVariables false
set_option linter.unusedSimpArgs false
namespace Go.Proofs.YtanhhihechakhaaDoor
open Go.RowKit Go.Proofs.YtanhhihechakhaaDoor.E Go.Proofs.YtanhhihechakhaaDoor.ReplP Go.Proofs.YtanhhihechakhaaDoor.TokP
set_option maxRecDepth 100000 in
theorem number_c (s : ByteArray) (h : Hp) (hs : s.size ≤ 70368744177600) : C0 Tryd.prog 50 [.string s] h (ansV 84 (numA s.data.toList)) := by
 refine enter0 Tryd.func50 rfl rfl rfl (fun w => ?_)
 refine cy_seq ?_
 refine cy_region ?_
 refine sy_alloc zer_65 rfl rfl (fun b2 hb2 hM2 => ?_) (by simp)
 refine sy_assign rfl rfl rfl ?_
 refine sy_assign rfl rfl rfl ?_
 refine sy_nil rfl ?_
 refine ny_next ?_
 refine cy_seq ?_
 refine cy_region ?_
 refine sy_move rfl rfl rfl ?_
 have hrl := runB_le digitB s.data.toList
 have hsz0 : s.data.toList.length = s.size := rfl
 refine sy_call rfl call_43 rfl (row_c s 49 digitB _ (by omega) call_49 (fun c h => digit_c c h)) rfl rfl ?_
 refine sy_assign rfl rfl rfl ?_
 refine sy_nil rfl ?_
 refine ny_next ?_
 refine cy_seq ?_
 refine cy_seq ?_
 refine cy_region ?_
 refine sy_move rfl rfl rfl ?_
 refine sy_addi rfl rfl rfl (by omega) (by omega) rfl rfl ?_
 refine sy_move rfl rfl rfl ?_
 refine sy_len rfl (len_string Tryd.underlying9 _) rfl rfl ?_
 refine sy_cmp rfl rfl rfl rfl rfl ?_
 refine sy_move rfl rfl rfl ?_
 refine sy_cond (d := 17) _ rfl rfl (fun hg17 => ?_) (fun hg17 => ?_)
 · have hsz : s.data.toList.length = s.size := rfl
   have h17 : ((runB digitB s.data.toList) : Int) + 1 < (s.size : Int) := of_decide_eq_true hg17
   obtain ⟨e0, he0⟩ : ∃ e0, s.data.toList[(runB digitB s.data.toList)]? = some e0 := ⟨_, List.getElem?_eq_getElem (by omega)⟩
   obtain ⟨e1, he1⟩ : ∃ e1, s.data.toList[(runB digitB s.data.toList) + 1]? = some e1 := ⟨_, List.getElem?_eq_getElem (by omega)⟩
   refine sy_move rfl rfl rfl ?_
   refine sy_move rfl rfl rfl ?_
   refine sy_idxs (u := e0) Tryd.underlying9 rfl rfl (by omega) (ba_at he0) rfl rfl ?_
   refine sy_cmp rfl rfl rfl rfl rfl ?_
   refine sy_pickT rfl rfl rfl rfl ?_
   refine sy_move rfl rfl rfl ?_
   refine sy_cond (d := 23) _ rfl rfl (fun hg23 => ?_) (fun hg23 => ?_)
   · refine sy_move rfl rfl rfl ?_
     refine sy_move rfl rfl rfl ?_
     refine sy_addi (z := (((runB digitB s.data.toList) + 1 : Nat) : Int)) rfl rfl (by omega) (by omega) (by omega) rfl rfl ?_
     refine sy_idxs (u := e1) Tryd.underlying9 rfl rfl (by omega) (ba_at he1) rfl rfl ?_
     refine sy_call rfl call_49 rfl (digit_c e1 _) rfl rfl ?_
     refine sy_pickT rfl rfl rfl rfl ?_
     refine sy_nil rfl ?_
     refine ny_next ?_
     refine cy_cond rfl (fun hc29 => ?_) (fun hc29 => ?_)
     · have hdot : dottedB s.data.toList (runB digitB s.data.toList) = true := by
        have h7 : decide ((((runB digitB s.data.toList) : Nat) : Int) + 1 < (s.data.toList.length : Int)) = decide ((((runB digitB s.data.toList) : Nat) : Int) + 1 < (s.size : Int)) := rfl
        unfold dottedB
        rw [h7]
        first | (rw [hg17, he0, he1]; show ((true && ((e0.toNat : Int) == 46)) && digitB e1) = _; first | (rw [hg23, hc29]; rfl) | (rw [hg23]; rfl)) | (rw [hg17]; rfl)
       refine cy_seq ?_
       refine cy_region ?_
       refine sy_build rfl (fun w => bld_65_ w) rfl rfl ?_
       refine sy_call rfl call_31 rfl (bad_c _ _ _) rfl rfl ?_
       first | refine sy_stl 0 sz_65 rfl rfl rfl rfl rfl rfl rfl rfl ?_ | refine sy_stl 1 sz_65 rfl rfl rfl rfl rfl rfl rfl rfl ?_ | refine sy_stl 2 sz_65 rfl rfl rfl rfl rfl rfl rfl rfl ?_
       refine sy_assign rfl rfl rfl ?_
       refine sy_assign rfl rfl rfl ?_
       refine sy_nil rfl ?_
       refine ny_next ?_
       refine cy_ret ?_
       refine ny_thenR ?_
       first | refine ny_finR (rescT 0 rfl agg_65 rfl rfl rfl rfl rfl) (fun w hs2 => ⟨?_, hs2.frm⟩) | refine ny_finR (rescT 1 rfl agg_65 rfl rfl rfl rfl rfl) (fun w hs2 => ⟨?_, hs2.frm⟩) | refine ny_finR (rescT 2 rfl agg_65 rfl rfl rfl rfl rfl) (fun w hs2 => ⟨?_, hs2.frm⟩)
       unfold numA
       rw [if_pos hdot]
       rfl
     · have hdot : dottedB s.data.toList (runB digitB s.data.toList) = false := by
        have h7 : decide ((((runB digitB s.data.toList) : Nat) : Int) + 1 < (s.data.toList.length : Int)) = decide ((((runB digitB s.data.toList) : Nat) : Int) + 1 < (s.size : Int)) := rfl
        unfold dottedB
        rw [h7]
        first | (rw [hg17, he0, he1]; show ((true && ((e0.toNat : Int) == 46)) && digitB e1) = _; first | (rw [hg23, hc29]; rfl) | (rw [hg23]; rfl)) | (rw [hg17]; rfl)
       refine cy_skip ?_
       refine ny_next ?_
       refine cy_seq ?_
       refine cy_region ?_
       refine sy_assign rfl rfl rfl ?_
       refine sy_nil rfl ?_
       refine ny_next ?_
       refine cy_seq ?_
       refine cy_seq ?_
       refine cy_region ?_
       refine sy_move rfl rfl rfl ?_
       refine sy_move rfl rfl rfl ?_
       refine sy_strto Tryd.underlying9 rfl rfl (by omega) rfl rfl ?_
       refine sy_strbytes Tryd.underlying9 Tryd.underlying36 Tryd.underlying5 rfl rfl rfl (fun b35 c35 h35 hle35 hr35 => ?_) (by simp)
       rw [ext_to] at hr35
       have hfl := figs_len s.data.toList
       have hxs : (s.extract 0 (runB digitB s.data.toList)).size = (runB digitB s.data.toList) := by
        have h9 : (s.extract 0 (runB digitB s.data.toList)).size = (s.extract 0 (runB digitB s.data.toList)).data.toList.length := rfl
        rw [h9, ext_to]
        exact hfl
       rw [hxs]
       refine sy_len rfl (len_slice Tryd.underlying36 _ _ _) rfl rfl ?_
       refine sy_move rfl rfl rfl ?_
       refine sy_nil rfl ?_
       refine ny_next ?_
       refine cy_block ?_
       refine cy_loopK (ι := Nat) [2, 5, 35, 36] rfl (fun i => i ≤ (runB digitB s.data.toList) ∧ valN ((figs s.data.toList).take i) ≤ 9223372036854775808) (fun i => (runB digitB s.data.toList) - i) (fun i => [(6, .int .u64 ((valN ((figs s.data.toList).take i) : Nat) : Int)), (37, .int .i64 (i : Int))]) (fun i => h35) (fun i => [.blk b2 (.cells [.int .i64 0, .string ⟨#[]⟩, .int .i64 0, .bool false, .bool false].toArray 65 (0, 0))]) 0 [0] ⟨Nat.zero_le _, by simp [valN]⟩ ⟨rfl, rfl, trivial⟩ rfl rfl ?_
       rintro i ⟨hI, hpre⟩
       refine cy_seq ?_
       refine cy_region ?_
       refine sy_cmp rfl rfl rfl rfl rfl ?_
       refine sy_nil rfl ?_
       refine ny_next ?_
       refine cy_seq ?_
       refine cy_cond rfl (fun hc38 => ?_) (fun hc38 => ?_)
       · have hlti : i < (runB digitB s.data.toList) := by have := of_decide_eq_true hc38; omega
         refine cy_skip ?_
         refine ny_next ?_
         refine cy_seq ?_
         refine cy_block ?_
         refine cy_seq ?_
         refine cy_region ?_
         refine sy_idxR (fc := byteC) (es := (figs s.data.toList)) els_36 rfl rfl hr35 hfl (by omega) rfl rfl (fun e39 b39 o39 he39 hA39 hc39 => ?_)
         refine sy_ldh one_5 rfl (hc39 0 _ rfl) rfl rfl ?_
         have hdg := figs_dig he39
         refine sy_assign rfl rfl rfl ?_
         refine sy_nil rfl ?_
         refine ny_next ?_
         refine cy_seq ?_
         refine cy_region ?_
         refine sy_move rfl rfl rfl ?_
         refine sy_subK (z := ((e39.toNat - 48 : Nat) : Int)) rfl rfl (by rw [IntWalk.u8_in _ ⟨by omega, by omega⟩]; omega) rfl rfl ?_
         refine sy_convK (z := ((e39.toNat - 48 : Nat) : Int)) Tryd.underlying5 Tryd.underlying104 rfl (by rw [IntWalk.u64_in _ ⟨by omega, by omega⟩]) rfl rfl ?_
         refine sy_assign rfl rfl rfl ?_
         refine sy_nil rfl ?_
         refine ny_next ?_
         refine cy_seq ?_
         refine cy_seq ?_
         refine cy_region ?_
         refine sy_move rfl rfl rfl ?_
         refine sy_move rfl rfl rfl ?_
         refine sy_subK (z := ((9223372036854775808 - (e39.toNat - 48) : Nat) : Int)) rfl rfl (by rw [IntWalk.u64_in _ ⟨by omega, by omega⟩]; omega) rfl rfl ?_
         refine sy_quoU (z := (((9223372036854775808 - (e39.toNat - 48)) / 10 : Nat) : Int)) rfl rfl (by decide) rfl (by omega) (by omega) rfl rfl ?_
         refine sy_cmp rfl rfl rfl rfl rfl ?_
         refine sy_nil rfl ?_
         refine ny_next ?_
         refine cy_cond rfl (fun hc48 => ?_) (fun hc48 => ?_)
         · have hbig : 9223372036854775808 < valN (figs s.data.toList) := by
            have h9 := of_decide_eq_true hc48
            have h8 := valN_le (figs s.data.toList) (i + 1)
            rw [valN_succ he39] at h8
            omega
           refine cy_seq ?_
           refine cy_region ?_
           refine sy_build rfl (fun w => bld_65_ w) rfl rfl ?_
           refine sy_call rfl call_31 rfl (bad_c _ _ _) rfl rfl ?_
           first | refine sy_stl 0 sz_65 rfl rfl rfl rfl rfl rfl rfl rfl ?_ | refine sy_stl 1 sz_65 rfl rfl rfl rfl rfl rfl rfl rfl ?_ | refine sy_stl 2 sz_65 rfl rfl rfl rfl rfl rfl rfl rfl ?_
           refine sy_assign rfl rfl rfl ?_
           refine sy_assign rfl rfl rfl ?_
           refine sy_nil rfl ?_
           refine ny_next ?_
           refine cy_ret ?_
           refine ny_thenR ?_
           refine ny_blockR ?_
           refine ny_thenR ?_
           refine ny_thenR ?_
           refine ny_blockR ?_
           refine ny_thenR ?_
           first | refine ny_finR (rescT 0 rfl agg_65 rfl rfl rfl rfl rfl) (fun w hs2 => ⟨?_, hs2.frm⟩) | refine ny_finR (rescT 1 rfl agg_65 rfl rfl rfl rfl rfl) (fun w hs2 => ⟨?_, hs2.frm⟩) | refine ny_finR (rescT 2 rfl agg_65 rfl rfl rfl rfl rfl) (fun w hs2 => ⟨?_, hs2.frm⟩)
           unfold numA
           rw [hdot, if_neg (by decide), if_pos hbig]
           rfl
         · have hok := of_decide_eq_false hc48
           refine cy_skip ?_
           refine ny_next ?_
           refine cy_region ?_
           refine sy_move rfl rfl rfl ?_
           refine sy_mulK (z := ((10 * valN ((figs s.data.toList).take i) : Nat) : Int)) rfl rfl (by rw [IntWalk.u64_in _ ⟨by omega, by omega⟩]; omega) rfl rfl ?_
           refine sy_move rfl rfl rfl ?_
           refine sy_addK (z := ((10 * valN ((figs s.data.toList).take i) + (e39.toNat - 48) : Nat) : Int)) rfl rfl (by rw [IntWalk.u64_in _ ⟨by omega, by omega⟩]; omega) rfl rfl ?_
           refine sy_assign rfl rfl rfl ?_
           refine sy_nil rfl ?_
           refine ny_blockN ?_
           refine ny_next ?_
           refine cy_region ?_
           refine sy_addi (z := ((i + 1 : Nat) : Int)) rfl rfl (by omega) (by omega) (by omega) rfl rfl ?_
           refine sy_move rfl rfl rfl ?_
           refine sy_nil rfl ?_
           refine ny_roundK [2, 5, 35, 36] (i + 1) [0] ⟨by omega, by rw [valN_succ he39]; omega⟩ (show (runB digitB s.data.toList) - (i + 1) < (runB digitB s.data.toList) - i by omega) rfl ⟨congrArg (fun z : Nat => some (Value.int .u64 (z : Int))) (valN_succ he39).symm, rfl, trivial⟩ rfl rfl
       · have hie : i = (runB digitB s.data.toList) := by have := of_decide_eq_false hc38; omega
         have htk : (figs s.data.toList).take i = (figs s.data.toList) := List.take_of_length_le (by omega)
         rw [htk] at hpre ⊢
         refine cy_exit ?_
         refine ny_thenE ?_
         refine ny_thenE ?_
         refine ny_blockX ?_
         refine ny_next ?_
         refine cy_seq ?_
         refine cy_region ?_
         refine sy_move rfl rfl rfl ?_
         refine sy_convK Tryd.underlying104 Tryd.underlying2 rfl rfl rfl rfl ?_
         refine sy_build rfl (fun w => bld_65_0x2 w) rfl rfl ?_
         refine sy_move rfl rfl rfl ?_
         first | refine sy_stl 0 sz_65 rfl rfl rfl rfl rfl rfl rfl rfl ?_ | refine sy_stl 1 sz_65 rfl rfl rfl rfl rfl rfl rfl rfl ?_ | refine sy_stl 2 sz_65 rfl rfl rfl rfl rfl rfl rfl rfl ?_
         refine sy_assign rfl rfl rfl ?_
         refine sy_assign rfl rfl rfl ?_
         refine sy_nil rfl ?_
         refine ny_next ?_
         refine cy_ret ?_
         first | refine ny_finR (rescT 0 rfl agg_65 rfl rfl rfl rfl rfl) (fun w hs2 => ⟨?_, hs2.frm⟩) | refine ny_finR (rescT 1 rfl agg_65 rfl rfl rfl rfl rfl) (fun w hs2 => ⟨?_, hs2.frm⟩) | refine ny_finR (rescT 2 rfl agg_65 rfl rfl rfl rfl rfl) (fun w hs2 => ⟨?_, hs2.frm⟩)
         unfold numA
         rw [hdot, if_neg (by decide), if_neg (by omega)]
         rfl
   · refine sy_skip rfl rfl rfl ?_
     refine sy_skip rfl rfl rfl ?_
     refine sy_skip rfl rfl rfl ?_
     refine sy_skip rfl rfl rfl ?_
     refine sy_skip rfl rfl rfl ?_
     refine sy_pickF rfl rfl rfl rfl ?_
     refine sy_nil rfl ?_
     refine ny_next ?_
     refine cy_condF rfl ?_
     have hdot : dottedB s.data.toList (runB digitB s.data.toList) = false := by
      have h7 : decide ((((runB digitB s.data.toList) : Nat) : Int) + 1 < (s.data.toList.length : Int)) = decide ((((runB digitB s.data.toList) : Nat) : Int) + 1 < (s.size : Int)) := rfl
      unfold dottedB
      rw [h7]
      first | (rw [hg17, he0, he1]; show ((true && ((e0.toNat : Int) == 46)) && digitB e1) = _; first | (rw [hg23, hc29]; rfl) | (rw [hg23]; rfl)) | (rw [hg17]; rfl)
     refine cy_skip ?_
     refine ny_next ?_
     refine cy_seq ?_
     refine cy_region ?_
     refine sy_assign rfl rfl rfl ?_
     refine sy_nil rfl ?_
     refine ny_next ?_
     refine cy_seq ?_
     refine cy_seq ?_
     refine cy_region ?_
     refine sy_move rfl rfl rfl ?_
     refine sy_move rfl rfl rfl ?_
     refine sy_strto Tryd.underlying9 rfl rfl (by omega) rfl rfl ?_
     refine sy_strbytes Tryd.underlying9 Tryd.underlying36 Tryd.underlying5 rfl rfl rfl (fun b35 c35 h35 hle35 hr35 => ?_) (by simp)
     rw [ext_to] at hr35
     have hfl := figs_len s.data.toList
     have hxs : (s.extract 0 (runB digitB s.data.toList)).size = (runB digitB s.data.toList) := by
      have h9 : (s.extract 0 (runB digitB s.data.toList)).size = (s.extract 0 (runB digitB s.data.toList)).data.toList.length := rfl
      rw [h9, ext_to]
      exact hfl
     rw [hxs]
     refine sy_len rfl (len_slice Tryd.underlying36 _ _ _) rfl rfl ?_
     refine sy_move rfl rfl rfl ?_
     refine sy_nil rfl ?_
     refine ny_next ?_
     refine cy_block ?_
     refine cy_loopK (ι := Nat) [2, 5, 35, 36] rfl (fun i => i ≤ (runB digitB s.data.toList) ∧ valN ((figs s.data.toList).take i) ≤ 9223372036854775808) (fun i => (runB digitB s.data.toList) - i) (fun i => [(6, .int .u64 ((valN ((figs s.data.toList).take i) : Nat) : Int)), (37, .int .i64 (i : Int))]) (fun i => h35) (fun i => [.blk b2 (.cells [.int .i64 0, .string ⟨#[]⟩, .int .i64 0, .bool false, .bool false].toArray 65 (0, 0))]) 0 [0] ⟨Nat.zero_le _, by simp [valN]⟩ ⟨rfl, rfl, trivial⟩ rfl rfl ?_
     rintro i ⟨hI, hpre⟩
     refine cy_seq ?_
     refine cy_region ?_
     refine sy_cmp rfl rfl rfl rfl rfl ?_
     refine sy_nil rfl ?_
     refine ny_next ?_
     refine cy_seq ?_
     refine cy_cond rfl (fun hc38 => ?_) (fun hc38 => ?_)
     · have hlti : i < (runB digitB s.data.toList) := by have := of_decide_eq_true hc38; omega
       refine cy_skip ?_
       refine ny_next ?_
       refine cy_seq ?_
       refine cy_block ?_
       refine cy_seq ?_
       refine cy_region ?_
       refine sy_idxR (fc := byteC) (es := (figs s.data.toList)) els_36 rfl rfl hr35 hfl (by omega) rfl rfl (fun e39 b39 o39 he39 hA39 hc39 => ?_)
       refine sy_ldh one_5 rfl (hc39 0 _ rfl) rfl rfl ?_
       have hdg := figs_dig he39
       refine sy_assign rfl rfl rfl ?_
       refine sy_nil rfl ?_
       refine ny_next ?_
       refine cy_seq ?_
       refine cy_region ?_
       refine sy_move rfl rfl rfl ?_
       refine sy_subK (z := ((e39.toNat - 48 : Nat) : Int)) rfl rfl (by rw [IntWalk.u8_in _ ⟨by omega, by omega⟩]; omega) rfl rfl ?_
       refine sy_convK (z := ((e39.toNat - 48 : Nat) : Int)) Tryd.underlying5 Tryd.underlying104 rfl (by rw [IntWalk.u64_in _ ⟨by omega, by omega⟩]) rfl rfl ?_
       refine sy_assign rfl rfl rfl ?_
       refine sy_nil rfl ?_
       refine ny_next ?_
       refine cy_seq ?_
       refine cy_seq ?_
       refine cy_region ?_
       refine sy_move rfl rfl rfl ?_
       refine sy_move rfl rfl rfl ?_
       refine sy_subK (z := ((9223372036854775808 - (e39.toNat - 48) : Nat) : Int)) rfl rfl (by rw [IntWalk.u64_in _ ⟨by omega, by omega⟩]; omega) rfl rfl ?_
       refine sy_quoU (z := (((9223372036854775808 - (e39.toNat - 48)) / 10 : Nat) : Int)) rfl rfl (by decide) rfl (by omega) (by omega) rfl rfl ?_
       refine sy_cmp rfl rfl rfl rfl rfl ?_
       refine sy_nil rfl ?_
       refine ny_next ?_
       refine cy_cond rfl (fun hc48 => ?_) (fun hc48 => ?_)
       · have hbig : 9223372036854775808 < valN (figs s.data.toList) := by
          have h9 := of_decide_eq_true hc48
          have h8 := valN_le (figs s.data.toList) (i + 1)
          rw [valN_succ he39] at h8
          omega
         refine cy_seq ?_
         refine cy_region ?_
         refine sy_build rfl (fun w => bld_65_ w) rfl rfl ?_
         refine sy_call rfl call_31 rfl (bad_c _ _ _) rfl rfl ?_
         first | refine sy_stl 0 sz_65 rfl rfl rfl rfl rfl rfl rfl rfl ?_ | refine sy_stl 1 sz_65 rfl rfl rfl rfl rfl rfl rfl rfl ?_ | refine sy_stl 2 sz_65 rfl rfl rfl rfl rfl rfl rfl rfl ?_
         refine sy_assign rfl rfl rfl ?_
         refine sy_assign rfl rfl rfl ?_
         refine sy_nil rfl ?_
         refine ny_next ?_
         refine cy_ret ?_
         refine ny_thenR ?_
         refine ny_blockR ?_
         refine ny_thenR ?_
         refine ny_thenR ?_
         refine ny_blockR ?_
         refine ny_thenR ?_
         first | refine ny_finR (rescT 0 rfl agg_65 rfl rfl rfl rfl rfl) (fun w hs2 => ⟨?_, hs2.frm⟩) | refine ny_finR (rescT 1 rfl agg_65 rfl rfl rfl rfl rfl) (fun w hs2 => ⟨?_, hs2.frm⟩) | refine ny_finR (rescT 2 rfl agg_65 rfl rfl rfl rfl rfl) (fun w hs2 => ⟨?_, hs2.frm⟩)
         unfold numA
         rw [hdot, if_neg (by decide), if_pos hbig]
         rfl
       · have hok := of_decide_eq_false hc48
         refine cy_skip ?_
         refine ny_next ?_
         refine cy_region ?_
         refine sy_move rfl rfl rfl ?_
         refine sy_mulK (z := ((10 * valN ((figs s.data.toList).take i) : Nat) : Int)) rfl rfl (by rw [IntWalk.u64_in _ ⟨by omega, by omega⟩]; omega) rfl rfl ?_
         refine sy_move rfl rfl rfl ?_
         refine sy_addK (z := ((10 * valN ((figs s.data.toList).take i) + (e39.toNat - 48) : Nat) : Int)) rfl rfl (by rw [IntWalk.u64_in _ ⟨by omega, by omega⟩]; omega) rfl rfl ?_
         refine sy_assign rfl rfl rfl ?_
         refine sy_nil rfl ?_
         refine ny_blockN ?_
         refine ny_next ?_
         refine cy_region ?_
         refine sy_addi (z := ((i + 1 : Nat) : Int)) rfl rfl (by omega) (by omega) (by omega) rfl rfl ?_
         refine sy_move rfl rfl rfl ?_
         refine sy_nil rfl ?_
         refine ny_roundK [2, 5, 35, 36] (i + 1) [0] ⟨by omega, by rw [valN_succ he39]; omega⟩ (show (runB digitB s.data.toList) - (i + 1) < (runB digitB s.data.toList) - i by omega) rfl ⟨congrArg (fun z : Nat => some (Value.int .u64 (z : Int))) (valN_succ he39).symm, rfl, trivial⟩ rfl rfl
     · have hie : i = (runB digitB s.data.toList) := by have := of_decide_eq_false hc38; omega
       have htk : (figs s.data.toList).take i = (figs s.data.toList) := List.take_of_length_le (by omega)
       rw [htk] at hpre ⊢
       refine cy_exit ?_
       refine ny_thenE ?_
       refine ny_thenE ?_
       refine ny_blockX ?_
       refine ny_next ?_
       refine cy_seq ?_
       refine cy_region ?_
       refine sy_move rfl rfl rfl ?_
       refine sy_convK Tryd.underlying104 Tryd.underlying2 rfl rfl rfl rfl ?_
       refine sy_build rfl (fun w => bld_65_0x2 w) rfl rfl ?_
       refine sy_move rfl rfl rfl ?_
       first | refine sy_stl 0 sz_65 rfl rfl rfl rfl rfl rfl rfl rfl ?_ | refine sy_stl 1 sz_65 rfl rfl rfl rfl rfl rfl rfl rfl ?_ | refine sy_stl 2 sz_65 rfl rfl rfl rfl rfl rfl rfl rfl ?_
       refine sy_assign rfl rfl rfl ?_
       refine sy_assign rfl rfl rfl ?_
       refine sy_nil rfl ?_
       refine ny_next ?_
       refine cy_ret ?_
       first | refine ny_finR (rescT 0 rfl agg_65 rfl rfl rfl rfl rfl) (fun w hs2 => ⟨?_, hs2.frm⟩) | refine ny_finR (rescT 1 rfl agg_65 rfl rfl rfl rfl rfl) (fun w hs2 => ⟨?_, hs2.frm⟩) | refine ny_finR (rescT 2 rfl agg_65 rfl rfl rfl rfl rfl) (fun w hs2 => ⟨?_, hs2.frm⟩)
       unfold numA
       rw [hdot, if_neg (by decide), if_neg (by omega)]
       rfl
 · refine sy_skip rfl rfl rfl ?_
   refine sy_skip rfl rfl rfl ?_
   refine sy_skip rfl rfl rfl ?_
   refine sy_skip rfl rfl rfl ?_
   refine sy_pickF rfl rfl rfl rfl ?_
   refine sy_move rfl rfl rfl ?_
   refine sy_skip rfl rfl rfl ?_
   refine sy_skip rfl rfl rfl ?_
   refine sy_skip rfl rfl rfl ?_
   refine sy_skip rfl rfl rfl ?_
   refine sy_skip rfl rfl rfl ?_
   refine sy_pickF rfl rfl rfl rfl ?_
   refine sy_nil rfl ?_
   refine ny_next ?_
   refine cy_condF rfl ?_
   have hdot : dottedB s.data.toList (runB digitB s.data.toList) = false := by
    have h7 : decide ((((runB digitB s.data.toList) : Nat) : Int) + 1 < (s.data.toList.length : Int)) = decide ((((runB digitB s.data.toList) : Nat) : Int) + 1 < (s.size : Int)) := rfl
    unfold dottedB
    rw [h7]
    first | (rw [hg17, he0, he1]; show ((true && ((e0.toNat : Int) == 46)) && digitB e1) = _; first | (rw [hg23, hc29]; rfl) | (rw [hg23]; rfl)) | (rw [hg17]; rfl)
   refine cy_skip ?_
   refine ny_next ?_
   refine cy_seq ?_
   refine cy_region ?_
   refine sy_assign rfl rfl rfl ?_
   refine sy_nil rfl ?_
   refine ny_next ?_
   refine cy_seq ?_
   refine cy_seq ?_
   refine cy_region ?_
   refine sy_move rfl rfl rfl ?_
   refine sy_move rfl rfl rfl ?_
   refine sy_strto Tryd.underlying9 rfl rfl (by omega) rfl rfl ?_
   refine sy_strbytes Tryd.underlying9 Tryd.underlying36 Tryd.underlying5 rfl rfl rfl (fun b35 c35 h35 hle35 hr35 => ?_) (by simp)
   rw [ext_to] at hr35
   have hfl := figs_len s.data.toList
   have hxs : (s.extract 0 (runB digitB s.data.toList)).size = (runB digitB s.data.toList) := by
    have h9 : (s.extract 0 (runB digitB s.data.toList)).size = (s.extract 0 (runB digitB s.data.toList)).data.toList.length := rfl
    rw [h9, ext_to]
    exact hfl
   rw [hxs]
   refine sy_len rfl (len_slice Tryd.underlying36 _ _ _) rfl rfl ?_
   refine sy_move rfl rfl rfl ?_
   refine sy_nil rfl ?_
   refine ny_next ?_
   refine cy_block ?_
   refine cy_loopK (ι := Nat) [2, 5, 35, 36] rfl (fun i => i ≤ (runB digitB s.data.toList) ∧ valN ((figs s.data.toList).take i) ≤ 9223372036854775808) (fun i => (runB digitB s.data.toList) - i) (fun i => [(6, .int .u64 ((valN ((figs s.data.toList).take i) : Nat) : Int)), (37, .int .i64 (i : Int))]) (fun i => h35) (fun i => [.blk b2 (.cells [.int .i64 0, .string ⟨#[]⟩, .int .i64 0, .bool false, .bool false].toArray 65 (0, 0))]) 0 [0] ⟨Nat.zero_le _, by simp [valN]⟩ ⟨rfl, rfl, trivial⟩ rfl rfl ?_
   rintro i ⟨hI, hpre⟩
   refine cy_seq ?_
   refine cy_region ?_
   refine sy_cmp rfl rfl rfl rfl rfl ?_
   refine sy_nil rfl ?_
   refine ny_next ?_
   refine cy_seq ?_
   refine cy_cond rfl (fun hc38 => ?_) (fun hc38 => ?_)
   · have hlti : i < (runB digitB s.data.toList) := by have := of_decide_eq_true hc38; omega
     refine cy_skip ?_
     refine ny_next ?_
     refine cy_seq ?_
     refine cy_block ?_
     refine cy_seq ?_
     refine cy_region ?_
     refine sy_idxR (fc := byteC) (es := (figs s.data.toList)) els_36 rfl rfl hr35 hfl (by omega) rfl rfl (fun e39 b39 o39 he39 hA39 hc39 => ?_)
     refine sy_ldh one_5 rfl (hc39 0 _ rfl) rfl rfl ?_
     have hdg := figs_dig he39
     refine sy_assign rfl rfl rfl ?_
     refine sy_nil rfl ?_
     refine ny_next ?_
     refine cy_seq ?_
     refine cy_region ?_
     refine sy_move rfl rfl rfl ?_
     refine sy_subK (z := ((e39.toNat - 48 : Nat) : Int)) rfl rfl (by rw [IntWalk.u8_in _ ⟨by omega, by omega⟩]; omega) rfl rfl ?_
     refine sy_convK (z := ((e39.toNat - 48 : Nat) : Int)) Tryd.underlying5 Tryd.underlying104 rfl (by rw [IntWalk.u64_in _ ⟨by omega, by omega⟩]) rfl rfl ?_
     refine sy_assign rfl rfl rfl ?_
     refine sy_nil rfl ?_
     refine ny_next ?_
     refine cy_seq ?_
     refine cy_seq ?_
     refine cy_region ?_
     refine sy_move rfl rfl rfl ?_
     refine sy_move rfl rfl rfl ?_
     refine sy_subK (z := ((9223372036854775808 - (e39.toNat - 48) : Nat) : Int)) rfl rfl (by rw [IntWalk.u64_in _ ⟨by omega, by omega⟩]; omega) rfl rfl ?_
     refine sy_quoU (z := (((9223372036854775808 - (e39.toNat - 48)) / 10 : Nat) : Int)) rfl rfl (by decide) rfl (by omega) (by omega) rfl rfl ?_
     refine sy_cmp rfl rfl rfl rfl rfl ?_
     refine sy_nil rfl ?_
     refine ny_next ?_
     refine cy_cond rfl (fun hc48 => ?_) (fun hc48 => ?_)
     · have hbig : 9223372036854775808 < valN (figs s.data.toList) := by
        have h9 := of_decide_eq_true hc48
        have h8 := valN_le (figs s.data.toList) (i + 1)
        rw [valN_succ he39] at h8
        omega
       refine cy_seq ?_
       refine cy_region ?_
       refine sy_build rfl (fun w => bld_65_ w) rfl rfl ?_
       refine sy_call rfl call_31 rfl (bad_c _ _ _) rfl rfl ?_
       first | refine sy_stl 0 sz_65 rfl rfl rfl rfl rfl rfl rfl rfl ?_ | refine sy_stl 1 sz_65 rfl rfl rfl rfl rfl rfl rfl rfl ?_ | refine sy_stl 2 sz_65 rfl rfl rfl rfl rfl rfl rfl rfl ?_
       refine sy_assign rfl rfl rfl ?_
       refine sy_assign rfl rfl rfl ?_
       refine sy_nil rfl ?_
       refine ny_next ?_
       refine cy_ret ?_
       refine ny_thenR ?_
       refine ny_blockR ?_
       refine ny_thenR ?_
       refine ny_thenR ?_
       refine ny_blockR ?_
       refine ny_thenR ?_
       first | refine ny_finR (rescT 0 rfl agg_65 rfl rfl rfl rfl rfl) (fun w hs2 => ⟨?_, hs2.frm⟩) | refine ny_finR (rescT 1 rfl agg_65 rfl rfl rfl rfl rfl) (fun w hs2 => ⟨?_, hs2.frm⟩) | refine ny_finR (rescT 2 rfl agg_65 rfl rfl rfl rfl rfl) (fun w hs2 => ⟨?_, hs2.frm⟩)
       unfold numA
       rw [hdot, if_neg (by decide), if_pos hbig]
       rfl
     · have hok := of_decide_eq_false hc48
       refine cy_skip ?_
       refine ny_next ?_
       refine cy_region ?_
       refine sy_move rfl rfl rfl ?_
       refine sy_mulK (z := ((10 * valN ((figs s.data.toList).take i) : Nat) : Int)) rfl rfl (by rw [IntWalk.u64_in _ ⟨by omega, by omega⟩]; omega) rfl rfl ?_
       refine sy_move rfl rfl rfl ?_
       refine sy_addK (z := ((10 * valN ((figs s.data.toList).take i) + (e39.toNat - 48) : Nat) : Int)) rfl rfl (by rw [IntWalk.u64_in _ ⟨by omega, by omega⟩]; omega) rfl rfl ?_
       refine sy_assign rfl rfl rfl ?_
       refine sy_nil rfl ?_
       refine ny_blockN ?_
       refine ny_next ?_
       refine cy_region ?_
       refine sy_addi (z := ((i + 1 : Nat) : Int)) rfl rfl (by omega) (by omega) (by omega) rfl rfl ?_
       refine sy_move rfl rfl rfl ?_
       refine sy_nil rfl ?_
       refine ny_roundK [2, 5, 35, 36] (i + 1) [0] ⟨by omega, by rw [valN_succ he39]; omega⟩ (show (runB digitB s.data.toList) - (i + 1) < (runB digitB s.data.toList) - i by omega) rfl ⟨congrArg (fun z : Nat => some (Value.int .u64 (z : Int))) (valN_succ he39).symm, rfl, trivial⟩ rfl rfl
   · have hie : i = (runB digitB s.data.toList) := by have := of_decide_eq_false hc38; omega
     have htk : (figs s.data.toList).take i = (figs s.data.toList) := List.take_of_length_le (by omega)
     rw [htk] at hpre ⊢
     refine cy_exit ?_
     refine ny_thenE ?_
     refine ny_thenE ?_
     refine ny_blockX ?_
     refine ny_next ?_
     refine cy_seq ?_
     refine cy_region ?_
     refine sy_move rfl rfl rfl ?_
     refine sy_convK Tryd.underlying104 Tryd.underlying2 rfl rfl rfl rfl ?_
     refine sy_build rfl (fun w => bld_65_0x2 w) rfl rfl ?_
     refine sy_move rfl rfl rfl ?_
     first | refine sy_stl 0 sz_65 rfl rfl rfl rfl rfl rfl rfl rfl ?_ | refine sy_stl 1 sz_65 rfl rfl rfl rfl rfl rfl rfl rfl ?_ | refine sy_stl 2 sz_65 rfl rfl rfl rfl rfl rfl rfl rfl ?_
     refine sy_assign rfl rfl rfl ?_
     refine sy_assign rfl rfl rfl ?_
     refine sy_nil rfl ?_
     refine ny_next ?_
     refine cy_ret ?_
     first | refine ny_finR (rescT 0 rfl agg_65 rfl rfl rfl rfl rfl) (fun w hs2 => ⟨?_, hs2.frm⟩) | refine ny_finR (rescT 1 rfl agg_65 rfl rfl rfl rfl rfl) (fun w hs2 => ⟨?_, hs2.frm⟩) | refine ny_finR (rescT 2 rfl agg_65 rfl rfl rfl rfl rfl) (fun w hs2 => ⟨?_, hs2.frm⟩)
     unfold numA
     rw [hdot, if_neg (by decide), if_neg (by omega)]
     rfl
end Go.Proofs.YtanhhihechakhaaDoor
set_option linter.unusedVariables false
set_option linter.unusedSimpArgs false
namespace Go.Proofs.YtanhhihechakhaaDoor
open Go.RowKit Go.Proofs.YtanhhihechakhaaDoor.E Go.Proofs.YtanhhihechakhaaDoor.ReplP Go.Proofs.YtanhhihechakhaaDoor.TokP
set_option maxRecDepth 100000 in
theorem quoted_c (s : ByteArray) (h : Hp) (hs : s.size ≤ 70368744177600) (h0 : 1 ≤ s.size) : C0 Tryd.prog 51 [.string s] h (ansV 84 (quoA s.data.toList)) := by
 refine enter0 Tryd.func51 rfl rfl rfl (fun w => ?_)
 refine cy_seq ?_
 refine cy_region ?_
 refine sy_alloc zer_65 rfl rfl (fun b2 hb2 hM2 => ?_) (by simp)
 refine sy_assign rfl rfl rfl ?_
 refine sy_assign rfl rfl rfl ?_
 refine sy_nil rfl ?_
 refine ny_next ?_
 refine cy_seq ?_
 refine cy_region ?_
 refine sy_assign rfl rfl rfl ?_
 refine sy_nil rfl ?_
 refine ny_next ?_
 refine cy_seq ?_
 refine cy_seq ?_
 refine cy_region ?_
 refine sy_assign rfl rfl rfl ?_
 refine sy_nil rfl ?_
 refine ny_next ?_
 refine cy_block ?_
 refine cy_nilRow 5 1 ?_
 refine cy_loopK (ι := Nat × List UInt8 × Value) [0, 2] rfl (fun z => z.1 ≤ s.size ∧ z.2.1.length ≤ z.1 ∧ quoL (s.data.toList.drop z.1) z.2.1 z.1 = quoA s.data.toList) (fun z => s.size - z.1) (fun z => [(5, z.2.2), (6, .int .i64 (z.1 : Int))]) (fun z => h) (fun z => [Res.row z.2.2 5 1 (z.2.1).length ((z.2.1).map bv), .blk b2 (.cells [.int .i64 0, .string ⟨#[]⟩, .int .i64 0, .bool false, .bool false].toArray 65 (0, 0))]) (1, [], .slice none 0 0) [0, 0] ⟨h0, Nat.zero_le _, rfl⟩ ⟨rfl, rfl, trivial⟩ rfl rfl ?_
 rintro ⟨i, out, v5⟩ ⟨hI, hol, hpre⟩
 simp only at hI hol hpre ⊢
 refine cy_seq ?_
 refine cy_seq ?_
 refine cy_region ?_
 refine sy_move rfl rfl rfl ?_
 refine sy_move rfl rfl rfl ?_
 refine sy_len rfl (len_string Tryd.underlying9 _) rfl rfl ?_
 refine sy_cmp rfl rfl rfl rfl rfl ?_
 refine sy_nil rfl ?_
 refine ny_next ?_
 refine cy_cond rfl (fun hc14 => ?_) (fun hc14 => ?_)
 · have hlti : i < s.size := by have := of_decide_eq_true hc14; omega
   obtain ⟨e0, he0⟩ : ∃ e0, s.data.toList[i]? = some e0 := ⟨_, List.getElem?_eq_getElem (by show i < s.size; omega)⟩
   refine cy_skip ?_
   refine ny_next ?_
   refine cy_seq ?_
   refine cy_block ?_
   refine cy_seq ?_
   refine cy_region ?_
   refine sy_move rfl rfl rfl ?_
   refine sy_move rfl rfl rfl ?_
   refine sy_idxs (u := e0) Tryd.underlying9 rfl rfl (by omega) (ba_at he0) rfl rfl ?_
   refine sy_assign rfl rfl rfl ?_
   refine sy_nil rfl ?_
   refine ny_next ?_
   refine cy_seq ?_
   refine cy_region ?_
   refine sy_move rfl rfl rfl ?_
   refine sy_addi (z := ((i + 1 : Nat) : Int)) rfl rfl (by omega) (by omega) (by omega) rfl rfl ?_
   refine sy_move rfl rfl rfl ?_
   refine sy_len rfl (len_string Tryd.underlying9 _) rfl rfl ?_
   refine sy_cmp rfl rfl rfl rfl rfl ?_
   refine sy_assign rfl rfl rfl ?_
   refine sy_nil rfl ?_
   refine ny_next ?_
   refine cy_seq ?_
   refine cy_block ?_
   refine cy_seq ?_
   refine cy_region ?_
   refine sy_move rfl rfl rfl ?_
   refine sy_cmp rfl rfl rfl rfl rfl ?_
   refine sy_move rfl rfl rfl ?_
   refine sy_cond (d := 28) _ rfl rfl (fun hg28 => ?_) (fun hg28 => ?_)
   · have h39 : e0 = 39 := UInt8.toNat_inj.1 (by have h9 : (e0.toNat : Int) = 39 := (by simpa using hg28); show e0.toNat = 39; omega)
     refine sy_move rfl rfl rfl ?_
     refine sy_pickT rfl rfl rfl rfl ?_
     refine sy_move rfl rfl rfl ?_
     refine sy_cond (d := 31) _ rfl rfl (fun hg31 => ?_) (fun hg31 => ?_)
     · have hmo : i + 1 < s.size := by have := of_decide_eq_true hg31; omega
       obtain ⟨e1, he1⟩ : ∃ e1, s.data.toList[i + 1]? = some e1 := ⟨_, List.getElem?_eq_getElem (by show i + 1 < s.size; omega)⟩
       refine sy_move rfl rfl rfl ?_
       refine sy_move rfl rfl rfl ?_
       refine sy_addi (z := ((i + 1 : Nat) : Int)) rfl rfl (by omega) (by omega) (by omega) rfl rfl ?_
       refine sy_idxs (u := e1) Tryd.underlying9 rfl rfl (by omega) (ba_at he1) rfl rfl ?_
       refine sy_cmp rfl rfl rfl rfl rfl ?_
       refine sy_pickT rfl rfl rfl rfl ?_
       refine sy_assign rfl rfl rfl ?_
       refine sy_nil rfl ?_
       refine ny_next ?_
       refine cy_cond rfl (fun hc25 => ?_) (fun hc25 => ?_)
       · have h39b : e1 = 39 := UInt8.toNat_inj.1 (by have h9 : (e1.toNat : Int) = 39 := (by simpa using hc25); show e1.toNat = 39; omega)
         refine cy_region ?_
         refine sy_move rfl rfl rfl ?_
         refine sy_addi (z := ((i + 1 : Nat) : Int)) rfl rfl (by omega) (by omega) (by omega) rfl rfl ?_
         refine sy_assign rfl rfl rfl ?_
         refine sy_nil rfl ?_
         refine ny_blockN ?_
         refine ny_next ?_
         refine cy_region ?_
         refine sy_move rfl rfl rfl ?_
         refine sy_move rfl rfl rfl ?_
         refine sy_buildSlice rfl (fun w => bsl_36_1_0 w) rfl rfl (fun b80 hb80 hM80 => ?_) (by simp)
         refine sy_append 1 0 row_36 (by decide) rfl rfl rfl rfl rfl rfl (by omega) (by simp only [maxLen]; omega) rfl rfl (fun v81 => ?_)
         refine sy_assign rfl rfl rfl ?_
         refine sy_nil rfl ?_
         refine ny_blockN ?_
         refine ny_next ?_
         refine cy_region ?_
         refine sy_move rfl rfl rfl ?_
         refine sy_addi (z := ((i + 1 + 1 : Nat) : Int)) rfl rfl (by omega) (by omega) (by omega) rfl rfl ?_
         refine sy_assign rfl rfl rfl ?_
         refine sy_nil rfl ?_
         refine ny_roundK [0, 2] (i + 2, out ++ [e0], v81) [0, 1] ⟨by omega, by show (out ++ [e0]).length ≤ i + 2; rw [List.length_append]; simp; omega, (quo_markC he0 h39 he1 h39b).trans hpre⟩ (show s.size - (i + 2) < s.size - i by omega) rfl ⟨rfl, rfl, trivial⟩ rfl (by show _ = some [Res.row v81 5 1 (out ++ [e0]).length ((out ++ [e0]).map bv), .blk b2 (.cells [.int .i64 0, .string ⟨#[]⟩, .int .i64 0, .bool false, .bool false].toArray 65 (0, 0))]; rw [List.length_append, List.map_append]; rfl)
       · refine cy_seq ?_
         refine cy_region ?_
         refine sy_move rfl rfl rfl ?_
         refine sy_cmp rfl rfl rfl rfl rfl ?_
         refine sy_setT (d := 42) rfl rfl hg28 ?_
         refine sy_assign rfl rfl rfl ?_
         refine sy_nil rfl ?_
         refine ny_next ?_
         refine cy_condT rfl ?_
         refine cy_seq ?_
         refine cy_region ?_
         refine sy_move rfl rfl rfl ?_
         refine sy_frzRow 0 rfl (fun _ _ => by simp) (fun A9 c9 h9 hv9 hlc9 hcm9 _ hle9 hcell9 => ?_)
         subst hv9
         have hr9 : RowsAt h9 A9 1 (out.map byteC) := rows_row (by decide) (byteC_len _) (by rw [byteC_flat]; exact hcell9)
         refine sy_bytesh Tryd.underlying36 Tryd.underlying5 Tryd.underlying9 rfl hr9 rfl rfl rfl ?_
         refine sy_build rfl (fun w => bld_65_0x1x3 w) rfl rfl ?_
         refine sy_move rfl rfl rfl ?_
         refine sy_addi (z := ((i + 1 : Nat) : Int)) rfl rfl (by omega) (by omega) (by omega) rfl rfl ?_
         first | refine sy_stl 0 sz_65 rfl rfl rfl rfl rfl rfl rfl rfl ?_ | refine sy_stl 1 sz_65 rfl rfl rfl rfl rfl rfl rfl rfl ?_ | refine sy_stl 2 sz_65 rfl rfl rfl rfl rfl rfl rfl rfl ?_ | refine sy_stl 3 sz_65 rfl rfl rfl rfl rfl rfl rfl rfl ?_
         refine sy_assign rfl rfl rfl ?_
         refine sy_assign rfl rfl rfl ?_
         refine sy_nil rfl ?_
         refine ny_next ?_
         refine cy_ret ?_
         refine ny_blockR ?_
         refine ny_thenR ?_
         refine ny_blockR ?_
         refine ny_thenR ?_
         refine ny_thenR ?_
         refine ny_blockR ?_
         refine ny_thenR ?_
         first | refine ny_finR (rescT 0 rfl agg_65 rfl rfl rfl rfl rfl) (fun w hs2 => ⟨?_, hs2.frm⟩) | refine ny_finR (rescT 1 rfl agg_65 rfl rfl rfl rfl rfl) (fun w hs2 => ⟨?_, hs2.frm⟩) | refine ny_finR (rescT 2 rfl agg_65 rfl rfl rfl rfl rfl) (fun w hs2 => ⟨?_, hs2.frm⟩) | refine ny_finR (rescT 3 rfl agg_65 rfl rfl rfl rfl rfl) (fun w hs2 => ⟨?_, hs2.frm⟩)
         rw [← hpre, quo_endC he0 h39 (by first | (intro d9 hd9; rw [he1] at hd9; injection hd9 with hd9; subst hd9; intro h9; rw [h9] at hc25; simp at hc25; done) | (intro d9 hd9; have h8 := (List.getElem?_eq_some_iff.1 hd9).1; have h9 := of_decide_eq_false hg31; have h7 : s.data.toList.length = s.size := rfl; omega))]
         rfl
     · refine sy_skip rfl rfl rfl ?_
       refine sy_skip rfl rfl rfl ?_
       refine sy_skip rfl rfl rfl ?_
       refine sy_skip rfl rfl rfl ?_
       refine sy_skip rfl rfl rfl ?_
       refine sy_pickF rfl rfl rfl rfl ?_
       refine sy_assign rfl rfl rfl ?_
       refine sy_nil rfl ?_
       refine ny_next ?_
       refine cy_condF rfl ?_
       refine cy_seq ?_
       refine cy_region ?_
       refine sy_move rfl rfl rfl ?_
       refine sy_cmp rfl rfl rfl rfl rfl ?_
       refine sy_setT (d := 42) rfl rfl hg28 ?_
       refine sy_assign rfl rfl rfl ?_
       refine sy_nil rfl ?_
       refine ny_next ?_
       refine cy_condT rfl ?_
       refine cy_seq ?_
       refine cy_region ?_
       refine sy_move rfl rfl rfl ?_
       refine sy_frzRow 0 rfl (fun _ _ => by simp) (fun A9 c9 h9 hv9 hlc9 hcm9 _ hle9 hcell9 => ?_)
       subst hv9
       have hr9 : RowsAt h9 A9 1 (out.map byteC) := rows_row (by decide) (byteC_len _) (by rw [byteC_flat]; exact hcell9)
       refine sy_bytesh Tryd.underlying36 Tryd.underlying5 Tryd.underlying9 rfl hr9 rfl rfl rfl ?_
       refine sy_build rfl (fun w => bld_65_0x1x3 w) rfl rfl ?_
       refine sy_move rfl rfl rfl ?_
       refine sy_addi (z := ((i + 1 : Nat) : Int)) rfl rfl (by omega) (by omega) (by omega) rfl rfl ?_
       first | refine sy_stl 0 sz_65 rfl rfl rfl rfl rfl rfl rfl rfl ?_ | refine sy_stl 1 sz_65 rfl rfl rfl rfl rfl rfl rfl rfl ?_ | refine sy_stl 2 sz_65 rfl rfl rfl rfl rfl rfl rfl rfl ?_ | refine sy_stl 3 sz_65 rfl rfl rfl rfl rfl rfl rfl rfl ?_
       refine sy_assign rfl rfl rfl ?_
       refine sy_assign rfl rfl rfl ?_
       refine sy_nil rfl ?_
       refine ny_next ?_
       refine cy_ret ?_
       refine ny_blockR ?_
       refine ny_thenR ?_
       refine ny_blockR ?_
       refine ny_thenR ?_
       refine ny_thenR ?_
       refine ny_blockR ?_
       refine ny_thenR ?_
       first | refine ny_finR (rescT 0 rfl agg_65 rfl rfl rfl rfl rfl) (fun w hs2 => ⟨?_, hs2.frm⟩) | refine ny_finR (rescT 1 rfl agg_65 rfl rfl rfl rfl rfl) (fun w hs2 => ⟨?_, hs2.frm⟩) | refine ny_finR (rescT 2 rfl agg_65 rfl rfl rfl rfl rfl) (fun w hs2 => ⟨?_, hs2.frm⟩) | refine ny_finR (rescT 3 rfl agg_65 rfl rfl rfl rfl rfl) (fun w hs2 => ⟨?_, hs2.frm⟩)
       rw [← hpre, quo_endC he0 h39 (by first | (intro d9 hd9; rw [he1] at hd9; injection hd9 with hd9; subst hd9; intro h9; rw [h9] at hc25; simp at hc25; done) | (intro d9 hd9; have h8 := (List.getElem?_eq_some_iff.1 hd9).1; have h9 := of_decide_eq_false hg31; have h7 : s.data.toList.length = s.size := rfl; omega))]
       rfl
   · have h39n : ¬ e0 = 39 := by
      intro h9
      rw [h9] at hg28
      simp at hg28
     refine sy_skip rfl rfl rfl ?_
     refine sy_pickF rfl rfl rfl rfl ?_
     refine sy_move rfl rfl rfl ?_
     refine sy_skip rfl rfl rfl ?_
     refine sy_skip rfl rfl rfl ?_
     refine sy_skip rfl rfl rfl ?_
     refine sy_skip rfl rfl rfl ?_
     refine sy_skip rfl rfl rfl ?_
     refine sy_pickF rfl rfl rfl rfl ?_
     refine sy_assign rfl rfl rfl ?_
     refine sy_nil rfl ?_
     refine ny_next ?_
     refine cy_condF rfl ?_
     refine cy_seq ?_
     refine cy_region ?_
     refine sy_move rfl rfl rfl ?_
     refine sy_cmp rfl rfl rfl rfl rfl ?_
     refine sy_setF (d := 42) rfl rfl hg28 ?_
     refine sy_assign rfl rfl rfl ?_
     refine sy_nil rfl ?_
     refine ny_next ?_
     refine cy_condF rfl ?_
     refine cy_seq ?_
     refine cy_region ?_
     refine sy_move rfl rfl rfl ?_
     refine sy_cmp rfl rfl rfl rfl rfl ?_
     refine sy_move rfl rfl rfl ?_
     refine sy_cond (d := 51) _ rfl rfl (fun hg51 => ?_) (fun hg51 => ?_)
     · have h92 : e0 = 92 := UInt8.toNat_inj.1 (by have h9 : (e0.toNat : Int) = 92 := (by simpa using hg51); show e0.toNat = 92; omega)
       refine sy_move rfl rfl rfl ?_
       refine sy_pickT rfl rfl rfl rfl ?_
       refine sy_assign rfl rfl rfl ?_
       refine sy_nil rfl ?_
       refine ny_next ?_
       refine cy_cond rfl (fun hc48 => ?_) (fun hc48 => ?_)
       · have hmo : i + 1 < s.size := by have := of_decide_eq_true hc48; omega
         obtain ⟨e1, he1⟩ : ∃ e1, s.data.toList[i + 1]? = some e1 := ⟨_, List.getElem?_eq_getElem (by show i + 1 < s.size; omega)⟩
         refine cy_seq ?_
         refine cy_region ?_
         refine sy_move rfl rfl rfl ?_
         refine sy_move rfl rfl rfl ?_
         refine sy_addi (z := ((i + 1 : Nat) : Int)) rfl rfl (by omega) (by omega) (by omega) rfl rfl ?_
         refine sy_idxs (u := e1) Tryd.underlying9 rfl rfl (by omega) (ba_at he1) rfl rfl ?_
         refine sy_call rfl call_62 rfl (esc_c e1 _) rfl rfl ?_
         refine sy_move rfl rfl rfl ?_
         refine sy_extract rfl rfl rfl rfl ?_
         refine sy_extract rfl rfl rfl rfl ?_
         refine sy_assign rfl rfl rfl ?_
         refine sy_assign rfl rfl rfl ?_
         refine sy_nil rfl ?_
         refine ny_next ?_
         refine cy_seq ?_
         refine cy_seq ?_
         refine cy_region ?_
         refine sy_move rfl rfl rfl ?_
         refine sy_not rfl rfl rfl ?_
         refine sy_nil rfl ?_
         refine ny_next ?_
         refine cy_cond rfl (fun hc63 => ?_) (fun hc63 => ?_)
         · refine cy_seq ?_
           refine cy_region ?_
           refine sy_build rfl (fun w => bld_65_ w) rfl rfl ?_
           refine sy_call rfl call_31 rfl (bad_c _ _ _) rfl rfl ?_
           first | refine sy_stl 0 sz_65 rfl rfl rfl rfl rfl rfl rfl rfl ?_ | refine sy_stl 1 sz_65 rfl rfl rfl rfl rfl rfl rfl rfl ?_ | refine sy_stl 2 sz_65 rfl rfl rfl rfl rfl rfl rfl rfl ?_ | refine sy_stl 3 sz_65 rfl rfl rfl rfl rfl rfl rfl rfl ?_
           refine sy_assign rfl rfl rfl ?_
           refine sy_assign rfl rfl rfl ?_
           refine sy_nil rfl ?_
           refine ny_next ?_
           refine cy_ret ?_
           refine ny_thenR ?_
           refine ny_blockR ?_
           refine ny_thenR ?_
           refine ny_blockR ?_
           refine ny_thenR ?_
           refine ny_thenR ?_
           refine ny_blockR ?_
           refine ny_thenR ?_
           first | refine ny_finR (rescT 0 rfl agg_65 rfl rfl rfl rfl rfl) (fun w hs2 => ⟨?_, hs2.frm⟩) | refine ny_finR (rescT 1 rfl agg_65 rfl rfl rfl rfl rfl) (fun w hs2 => ⟨?_, hs2.frm⟩) | refine ny_finR (rescT 2 rfl agg_65 rfl rfl rfl rfl rfl) (fun w hs2 => ⟨?_, hs2.frm⟩) | refine ny_finR (rescT 3 rfl agg_65 rfl rfl rfl rfl rfl) (fun w hs2 => ⟨?_, hs2.frm⟩)
           rw [← hpre, quo_badC he0 h92 he1 (Option.not_isSome_iff_eq_none.1 (by simpa using hc63))]
           rfl
         · obtain ⟨x1, hx1⟩ : ∃ x1, esc e1 = some x1 := Option.isSome_iff_exists.1 (by simpa using hc63)
           rw [show (esc e1).getD 0 = x1 by rw [hx1]; rfl]
           refine cy_skip ?_
           refine ny_next ?_
           refine cy_seq ?_
           refine cy_region ?_
           refine sy_move rfl rfl rfl ?_
           refine sy_assign rfl rfl rfl ?_
           refine sy_nil rfl ?_
           refine ny_next ?_
           refine cy_region ?_
           refine sy_move rfl rfl rfl ?_
           refine sy_addi (z := ((i + 1 : Nat) : Int)) rfl rfl (by omega) (by omega) (by omega) rfl rfl ?_
           refine sy_assign rfl rfl rfl ?_
           refine sy_nil rfl ?_
           refine ny_blockN ?_
           refine ny_next ?_
           refine cy_region ?_
           refine sy_move rfl rfl rfl ?_
           refine sy_move rfl rfl rfl ?_
           refine sy_buildSlice rfl (fun w => bsl_36_1_0 w) rfl rfl (fun b80 hb80 hM80 => ?_) (by simp)
           refine sy_append 1 0 row_36 (by decide) rfl rfl rfl rfl rfl rfl (by omega) (by simp only [maxLen]; omega) rfl rfl (fun v81 => ?_)
           refine sy_assign rfl rfl rfl ?_
           refine sy_nil rfl ?_
           refine ny_blockN ?_
           refine ny_next ?_
           refine cy_region ?_
           refine sy_move rfl rfl rfl ?_
           refine sy_addi (z := ((i + 1 + 1 : Nat) : Int)) rfl rfl (by omega) (by omega) (by omega) rfl rfl ?_
           refine sy_assign rfl rfl rfl ?_
           refine sy_nil rfl ?_
           refine ny_roundK [0, 2] (i + 2, out ++ [x1], v81) [0, 1] ⟨by omega, by show (out ++ [x1]).length ≤ i + 2; rw [List.length_append]; simp; omega, (quo_escC he0 h92 he1 hx1).trans hpre⟩ (show s.size - (i + 2) < s.size - i by omega) rfl ⟨rfl, rfl, trivial⟩ rfl (by show _ = some [Res.row v81 5 1 (out ++ [x1]).length ((out ++ [x1]).map bv), .blk b2 (.cells [.int .i64 0, .string ⟨#[]⟩, .int .i64 0, .bool false, .bool false].toArray 65 (0, 0))]; rw [List.length_append, List.map_append]; rfl)
       · refine cy_seq ?_
         refine cy_region ?_
         refine sy_move rfl rfl rfl ?_
         refine sy_cmp rfl rfl rfl rfl rfl ?_
         refine sy_setT (d := 71) rfl rfl hg51 ?_
         refine sy_move rfl rfl rfl ?_
         refine sy_skip rfl rfl rfl ?_
         refine sy_skip rfl rfl rfl ?_
         refine sy_pickT rfl rfl rfl rfl ?_
         refine sy_assign rfl rfl rfl ?_
         refine sy_nil rfl ?_
         refine ny_next ?_
         refine cy_condT rfl ?_
         refine cy_seq ?_
         refine cy_region ?_
         refine sy_build rfl (fun w => bld_65_ w) rfl rfl ?_
         refine sy_call rfl call_31 rfl (bad_c _ _ _) rfl rfl ?_
         first | refine sy_stl 0 sz_65 rfl rfl rfl rfl rfl rfl rfl rfl ?_ | refine sy_stl 1 sz_65 rfl rfl rfl rfl rfl rfl rfl rfl ?_ | refine sy_stl 2 sz_65 rfl rfl rfl rfl rfl rfl rfl rfl ?_ | refine sy_stl 3 sz_65 rfl rfl rfl rfl rfl rfl rfl rfl ?_
         refine sy_assign rfl rfl rfl ?_
         refine sy_assign rfl rfl rfl ?_
         refine sy_nil rfl ?_
         refine ny_next ?_
         refine cy_ret ?_
         refine ny_blockR ?_
         refine ny_thenR ?_
         refine ny_blockR ?_
         refine ny_thenR ?_
         refine ny_thenR ?_
         refine ny_blockR ?_
         refine ny_thenR ?_
         first | refine ny_finR (rescT 0 rfl agg_65 rfl rfl rfl rfl rfl) (fun w hs2 => ⟨?_, hs2.frm⟩) | refine ny_finR (rescT 1 rfl agg_65 rfl rfl rfl rfl rfl) (fun w hs2 => ⟨?_, hs2.frm⟩) | refine ny_finR (rescT 2 rfl agg_65 rfl rfl rfl rfl rfl) (fun w hs2 => ⟨?_, hs2.frm⟩) | refine ny_finR (rescT 3 rfl agg_65 rfl rfl rfl rfl rfl) (fun w hs2 => ⟨?_, hs2.frm⟩)
         first | (rw [← hpre, quo_slashC he0 h92 (by have h9 := of_decide_eq_false hc48; have h7 : s.data.toList.length = s.size := rfl; omega)]; rfl) | (rw [← hpre, quo_low he0 h39n h92n (of_decide_eq_true hc69)]; rfl)
     · have h92n : ¬ e0 = 92 := by
        intro h9
        rw [h9] at hg51
        simp at hg51
       refine sy_skip rfl rfl rfl ?_
       refine sy_pickF rfl rfl rfl rfl ?_
       refine sy_assign rfl rfl rfl ?_
       refine sy_nil rfl ?_
       refine ny_next ?_
       refine cy_condF rfl ?_
       refine cy_seq ?_
       refine cy_region ?_
       refine sy_move rfl rfl rfl ?_
       refine sy_cmp rfl rfl rfl rfl rfl ?_
       refine sy_setF (d := 71) rfl rfl hg51 ?_
       refine sy_move rfl rfl rfl ?_
       refine sy_move rfl rfl rfl ?_
       refine sy_cmp rfl rfl rfl rfl rfl ?_
       refine sy_pickF rfl rfl rfl rfl ?_
       refine sy_assign rfl rfl rfl ?_
       refine sy_nil rfl ?_
       refine ny_next ?_
       refine cy_cond rfl (fun hc69 => ?_) (fun hc69 => ?_)
       · refine cy_seq ?_
         refine cy_region ?_
         refine sy_build rfl (fun w => bld_65_ w) rfl rfl ?_
         refine sy_call rfl call_31 rfl (bad_c _ _ _) rfl rfl ?_
         first | refine sy_stl 0 sz_65 rfl rfl rfl rfl rfl rfl rfl rfl ?_ | refine sy_stl 1 sz_65 rfl rfl rfl rfl rfl rfl rfl rfl ?_ | refine sy_stl 2 sz_65 rfl rfl rfl rfl rfl rfl rfl rfl ?_ | refine sy_stl 3 sz_65 rfl rfl rfl rfl rfl rfl rfl rfl ?_
         refine sy_assign rfl rfl rfl ?_
         refine sy_assign rfl rfl rfl ?_
         refine sy_nil rfl ?_
         refine ny_next ?_
         refine cy_ret ?_
         refine ny_blockR ?_
         refine ny_thenR ?_
         refine ny_blockR ?_
         refine ny_thenR ?_
         refine ny_thenR ?_
         refine ny_blockR ?_
         refine ny_thenR ?_
         first | refine ny_finR (rescT 0 rfl agg_65 rfl rfl rfl rfl rfl) (fun w hs2 => ⟨?_, hs2.frm⟩) | refine ny_finR (rescT 1 rfl agg_65 rfl rfl rfl rfl rfl) (fun w hs2 => ⟨?_, hs2.frm⟩) | refine ny_finR (rescT 2 rfl agg_65 rfl rfl rfl rfl rfl) (fun w hs2 => ⟨?_, hs2.frm⟩) | refine ny_finR (rescT 3 rfl agg_65 rfl rfl rfl rfl rfl) (fun w hs2 => ⟨?_, hs2.frm⟩)
         first | (rw [← hpre, quo_slashC he0 h92 (by have h9 := of_decide_eq_false hc48; have h7 : s.data.toList.length = s.size := rfl; omega)]; rfl) | (rw [← hpre, quo_low he0 h39n h92n (of_decide_eq_true hc69)]; rfl)
       · refine cy_skip ?_
         refine ny_blockN ?_
         refine ny_next ?_
         refine cy_region ?_
         refine sy_move rfl rfl rfl ?_
         refine sy_move rfl rfl rfl ?_
         refine sy_buildSlice rfl (fun w => bsl_36_1_0 w) rfl rfl (fun b80 hb80 hM80 => ?_) (by simp)
         refine sy_append 1 0 row_36 (by decide) rfl rfl rfl rfl rfl rfl (by omega) (by simp only [maxLen]; omega) rfl rfl (fun v81 => ?_)
         refine sy_assign rfl rfl rfl ?_
         refine sy_nil rfl ?_
         refine ny_blockN ?_
         refine ny_next ?_
         refine cy_region ?_
         refine sy_move rfl rfl rfl ?_
         refine sy_addi (z := ((i + 1 : Nat) : Int)) rfl rfl (by omega) (by omega) (by omega) rfl rfl ?_
         refine sy_assign rfl rfl rfl ?_
         refine sy_nil rfl ?_
         refine ny_roundK [0, 2] (i + 1, out ++ [e0], v81) [0, 1] ⟨by omega, by show (out ++ [e0]).length ≤ i + 1; rw [List.length_append]; simp; omega, (quo_byte he0 h39n h92n (by have h9 := of_decide_eq_false hc69; exact h9)).trans hpre⟩ (show s.size - (i + 1) < s.size - i by omega) rfl ⟨rfl, rfl, trivial⟩ rfl (by show _ = some [Res.row v81 5 1 (out ++ [e0]).length ((out ++ [e0]).map bv), .blk b2 (.cells [.int .i64 0, .string ⟨#[]⟩, .int .i64 0, .bool false, .bool false].toArray 65 (0, 0))]; rw [List.length_append, List.map_append]; rfl)
 · have hge : s.size ≤ i := by have := of_decide_eq_false hc14; omega
   refine cy_exit ?_
   refine ny_thenE ?_
   refine ny_thenE ?_
   refine ny_blockX ?_
   refine ny_next ?_
   refine cy_seq ?_
   refine cy_region ?_
   refine sy_build rfl (fun w => bld_65_ w) rfl rfl ?_
   refine sy_call rfl call_31 rfl (bad_c _ _ _) rfl rfl ?_
   first | refine sy_stl 0 sz_65 rfl rfl rfl rfl rfl rfl rfl rfl ?_ | refine sy_stl 1 sz_65 rfl rfl rfl rfl rfl rfl rfl rfl ?_ | refine sy_stl 2 sz_65 rfl rfl rfl rfl rfl rfl rfl rfl ?_ | refine sy_stl 3 sz_65 rfl rfl rfl rfl rfl rfl rfl rfl ?_
   refine sy_assign rfl rfl rfl ?_
   refine sy_assign rfl rfl rfl ?_
   refine sy_nil rfl ?_
   refine ny_next ?_
   refine cy_ret ?_
   first | refine ny_finR (rescT 0 rfl agg_65 rfl rfl rfl rfl rfl) (fun w hs2 => ⟨?_, hs2.frm⟩) | refine ny_finR (rescT 1 rfl agg_65 rfl rfl rfl rfl rfl) (fun w hs2 => ⟨?_, hs2.frm⟩) | refine ny_finR (rescT 2 rfl agg_65 rfl rfl rfl rfl rfl) (fun w hs2 => ⟨?_, hs2.frm⟩) | refine ny_finR (rescT 3 rfl agg_65 rfl rfl rfl rfl rfl) (fun w hs2 => ⟨?_, hs2.frm⟩)
   rw [← hpre, quo_none (by show s.size ≤ i; exact hge)]
   rfl
end Go.Proofs.YtanhhihechakhaaDoor
set_option linter.unusedVariables false
set_option linter.unusedSimpArgs false
namespace Go.Proofs.YtanhhihechakhaaDoor
open Go.RowKit Go.Proofs.YtanhhihechakhaaDoor.E Go.Proofs.YtanhhihechakhaaDoor.ReplP Go.Proofs.YtanhhihechakhaaDoor.TokP
set_option maxRecDepth 100000 in
theorem one_c (s : ByteArray) (c : UInt8) (h : Hp) (hs : s.size ≤ 70368744177600) (h0 : 1 ≤ s.size) (hc0 : s.data.toList[0]? = some c) : C0 Tryd.prog 33 [.string s] h (ansV 84 (oneC c s.data.toList)) := by
 refine enter0 Tryd.func33 rfl rfl rfl (fun w => ?_)
 refine cy_seq ?_
 refine cy_region ?_
 refine sy_alloc zer_65 rfl rfl (fun b2 hb2 hM2 => ?_) (by simp)
 refine sy_assign rfl rfl rfl ?_
 refine sy_assign rfl rfl rfl ?_
 refine sy_nil rfl ?_
 refine ny_next ?_
 refine cy_seq ?_
 refine cy_region ?_
 refine sy_move rfl rfl rfl ?_
 refine sy_idxs (u := c) Tryd.underlying9 rfl rfl (by decide) (ba_at (i := 0) hc0) rfl rfl ?_
 refine sy_assign rfl rfl rfl ?_
 refine sy_nil rfl ?_
 refine ny_next ?_
 refine cy_seq ?_
 refine cy_region ?_
 refine sy_build rfl (fun w => bld_65_0 w) rfl rfl ?_
 refine sy_alloc zer_65 rfl rfl (fun b6 hb6 hM6 => ?_) (by simp)
 first | refine sy_stl 0 sz_65 rfl rfl rfl rfl rfl rfl rfl rfl ?_ | refine sy_stl 1 sz_65 rfl rfl rfl rfl rfl rfl rfl rfl ?_ | refine sy_stl 2 sz_65 rfl rfl rfl rfl rfl rfl rfl rfl ?_ | refine sy_stl 3 sz_65 rfl rfl rfl rfl rfl rfl rfl rfl ?_
 refine sy_nil rfl ?_
 refine ny_next ?_
 refine cy_seq ?_
 refine cy_region ?_
 refine sy_assign rfl rfl rfl ?_
 refine sy_nil rfl ?_
 refine ny_next ?_
 refine cy_seq ?_
 refine cy_block ?_
 refine cy_seq ?_
 refine cy_region ?_
 refine sy_move rfl rfl rfl ?_
 refine sy_call rfl call_46 rfl (small_c c _) rfl rfl ?_
 refine sy_assign rfl rfl rfl ?_
 refine sy_nil rfl ?_
 refine ny_next ?_
 refine cy_cond rfl (fun hc13 => ?_) (fun hc13 => ?_)
 · refine cy_region ?_
   refine sy_move rfl rfl rfl ?_
   refine sy_call rfl call_43 rfl (row_c s 47 letterB _ (by omega) call_47 (fun c h => letter_c c h)) rfl rfl ?_
   have hrl := runB_le letterB s.data.toList
   have hsz0 : s.data.toList.length = s.size := rfl
   refine sy_assign rfl rfl rfl ?_
   refine sy_nil rfl ?_
   refine ny_blockN ?_
   refine ny_next ?_
   refine cy_seq ?_
   refine cy_region ?_
   refine sy_move rfl rfl rfl ?_
   refine sy_move rfl rfl rfl ?_
   refine sy_strto Tryd.underlying9 rfl rfl (by omega) rfl rfl ?_
   refine sy_field fld_65_1 rfl rfl rfl ?_
   first | refine sy_stl 0 sz_9 rfl rfl rfl rfl rfl rfl rfl rfl ?_ | refine sy_stl 1 sz_9 rfl rfl rfl rfl rfl rfl rfl rfl ?_ | refine sy_stl 2 sz_9 rfl rfl rfl rfl rfl rfl rfl rfl ?_ | refine sy_stl 3 sz_9 rfl rfl rfl rfl rfl rfl rfl rfl ?_
   refine sy_nil rfl ?_
   refine ny_next ?_
   refine cy_seq ?_
   refine cy_region ?_
   first | refine sy_ldar 0 agg_65 rfl rfl rfl rfl rfl ?_ | refine sy_ldar 1 agg_65 rfl rfl rfl rfl rfl ?_ | refine sy_ldar 2 agg_65 rfl rfl rfl rfl rfl ?_ | refine sy_ldar 3 agg_65 rfl rfl rfl rfl rfl ?_
   refine sy_move rfl rfl rfl ?_
   first | refine sy_stl 0 sz_65 rfl rfl rfl rfl rfl rfl rfl rfl ?_ | refine sy_stl 1 sz_65 rfl rfl rfl rfl rfl rfl rfl rfl ?_ | refine sy_stl 2 sz_65 rfl rfl rfl rfl rfl rfl rfl rfl ?_ | refine sy_stl 3 sz_65 rfl rfl rfl rfl rfl rfl rfl rfl ?_
   refine sy_assign rfl rfl rfl ?_
   refine sy_assign rfl rfl rfl ?_
   refine sy_nil rfl ?_
   refine ny_next ?_
   refine cy_ret ?_
   first | refine ny_finR (rescT 0 rfl agg_65 rfl rfl rfl rfl rfl) (fun w hs2 => ⟨?_, hs2.frm⟩) | refine ny_finR (rescT 1 rfl agg_65 rfl rfl rfl rfl rfl) (fun w hs2 => ⟨?_, hs2.frm⟩) | refine ny_finR (rescT 2 rfl agg_65 rfl rfl rfl rfl rfl) (fun w hs2 => ⟨?_, hs2.frm⟩) | refine ny_finR (rescT 3 rfl agg_65 rfl rfl rfl rfl rfl) (fun w hs2 => ⟨?_, hs2.frm⟩)
   unfold oneC
   simp only [*, if_true, if_false, Bool.false_eq_true, Bool.true_eq_false, Bool.or_true, Bool.true_or, Bool.or_false, Bool.false_or, ext_take]
   rfl
 · refine cy_seq ?_
   refine cy_region ?_
   refine sy_move rfl rfl rfl ?_
   refine sy_call rfl call_48 rfl (big_c c _) rfl rfl ?_
   refine sy_assign rfl rfl rfl ?_
   refine sy_nil rfl ?_
   refine ny_next ?_
   refine cy_cond rfl (fun hc18 => ?_) (fun hc18 => ?_)
   · refine cy_seq ?_
     refine cy_region ?_
     refine sy_field fld_65_0 rfl rfl rfl ?_
     first | refine sy_stl 0 sz_3 rfl rfl rfl rfl rfl rfl rfl rfl ?_ | refine sy_stl 1 sz_3 rfl rfl rfl rfl rfl rfl rfl rfl ?_ | refine sy_stl 2 sz_3 rfl rfl rfl rfl rfl rfl rfl rfl ?_ | refine sy_stl 3 sz_3 rfl rfl rfl rfl rfl rfl rfl rfl ?_
     refine sy_nil rfl ?_
     refine ny_next ?_
     refine cy_region ?_
     refine sy_move rfl rfl rfl ?_
     refine sy_call rfl call_43 rfl (row_c s 47 letterB _ (by omega) call_47 (fun c h => letter_c c h)) rfl rfl ?_
     have hrl := runB_le letterB s.data.toList
     have hsz0 : s.data.toList.length = s.size := rfl
     refine sy_assign rfl rfl rfl ?_
     refine sy_nil rfl ?_
     refine ny_blockN ?_
     refine ny_next ?_
     refine cy_seq ?_
     refine cy_region ?_
     refine sy_move rfl rfl rfl ?_
     refine sy_move rfl rfl rfl ?_
     refine sy_strto Tryd.underlying9 rfl rfl (by omega) rfl rfl ?_
     refine sy_field fld_65_1 rfl rfl rfl ?_
     first | refine sy_stl 0 sz_9 rfl rfl rfl rfl rfl rfl rfl rfl ?_ | refine sy_stl 1 sz_9 rfl rfl rfl rfl rfl rfl rfl rfl ?_ | refine sy_stl 2 sz_9 rfl rfl rfl rfl rfl rfl rfl rfl ?_ | refine sy_stl 3 sz_9 rfl rfl rfl rfl rfl rfl rfl rfl ?_
     refine sy_nil rfl ?_
     refine ny_next ?_
     refine cy_seq ?_
     refine cy_region ?_
     first | refine sy_ldar 0 agg_65 rfl rfl rfl rfl rfl ?_ | refine sy_ldar 1 agg_65 rfl rfl rfl rfl rfl ?_ | refine sy_ldar 2 agg_65 rfl rfl rfl rfl rfl ?_ | refine sy_ldar 3 agg_65 rfl rfl rfl rfl rfl ?_
     refine sy_move rfl rfl rfl ?_
     first | refine sy_stl 0 sz_65 rfl rfl rfl rfl rfl rfl rfl rfl ?_ | refine sy_stl 1 sz_65 rfl rfl rfl rfl rfl rfl rfl rfl ?_ | refine sy_stl 2 sz_65 rfl rfl rfl rfl rfl rfl rfl rfl ?_ | refine sy_stl 3 sz_65 rfl rfl rfl rfl rfl rfl rfl rfl ?_
     refine sy_assign rfl rfl rfl ?_
     refine sy_assign rfl rfl rfl ?_
     refine sy_nil rfl ?_
     refine ny_next ?_
     refine cy_ret ?_
     first | refine ny_finR (rescT 0 rfl agg_65 rfl rfl rfl rfl rfl) (fun w hs2 => ⟨?_, hs2.frm⟩) | refine ny_finR (rescT 1 rfl agg_65 rfl rfl rfl rfl rfl) (fun w hs2 => ⟨?_, hs2.frm⟩) | refine ny_finR (rescT 2 rfl agg_65 rfl rfl rfl rfl rfl) (fun w hs2 => ⟨?_, hs2.frm⟩) | refine ny_finR (rescT 3 rfl agg_65 rfl rfl rfl rfl rfl) (fun w hs2 => ⟨?_, hs2.frm⟩)
     unfold oneC
     simp only [*, if_true, if_false, Bool.false_eq_true, Bool.true_eq_false, Bool.or_true, Bool.true_or, Bool.or_false, Bool.false_or, ext_take]
     rfl
   · refine cy_seq ?_
     refine cy_region ?_
     refine sy_move rfl rfl rfl ?_
     refine sy_call rfl call_49 rfl (digit_c c _) rfl rfl ?_
     refine sy_assign rfl rfl rfl ?_
     refine sy_nil rfl ?_
     refine ny_next ?_
     refine cy_cond rfl (fun hc24 => ?_) (fun hc24 => ?_)
     · refine cy_seq ?_
       refine cy_region ?_
       refine sy_move rfl rfl rfl ?_
       refine sy_call rfl call_50 rfl (number_c s _ hs) rfl rfl ?_
       refine sy_extract rfl rfl rfl rfl ?_
       refine sy_extract rfl rfl rfl rfl ?_
       refine sy_extract rfl rfl rfl rfl ?_
       first | refine sy_stl 0 sz_65 rfl rfl rfl rfl rfl rfl rfl rfl ?_ | refine sy_stl 1 sz_65 rfl rfl rfl rfl rfl rfl rfl rfl ?_ | refine sy_stl 2 sz_65 rfl rfl rfl rfl rfl rfl rfl rfl ?_ | refine sy_stl 3 sz_65 rfl rfl rfl rfl rfl rfl rfl rfl ?_
       refine sy_assign rfl rfl rfl ?_
       refine sy_assign rfl rfl rfl ?_
       refine sy_nil rfl ?_
       refine ny_next ?_
       refine cy_ret ?_
       refine ny_blockR ?_
       refine ny_thenR ?_
       first | refine ny_finR (rescT 0 rfl agg_65 rfl rfl rfl rfl rfl) (fun w hs2 => ⟨?_, hs2.frm⟩) | refine ny_finR (rescT 1 rfl agg_65 rfl rfl rfl rfl rfl) (fun w hs2 => ⟨?_, hs2.frm⟩) | refine ny_finR (rescT 2 rfl agg_65 rfl rfl rfl rfl rfl) (fun w hs2 => ⟨?_, hs2.frm⟩) | refine ny_finR (rescT 3 rfl agg_65 rfl rfl rfl rfl rfl) (fun w hs2 => ⟨?_, hs2.frm⟩)
       unfold oneC
       simp only [*, if_true, if_false, Bool.false_eq_true, Bool.true_eq_false, Bool.or_true, Bool.true_or, Bool.or_false, Bool.false_or, ext_take]
       rfl
     · refine cy_seq ?_
       refine cy_region ?_
       refine sy_move rfl rfl rfl ?_
       refine sy_cmp rfl rfl rfl rfl rfl ?_
       refine sy_assign rfl rfl rfl ?_
       refine sy_nil rfl ?_
       refine ny_next ?_
       refine cy_cond rfl (fun hc32 => ?_) (fun hc32 => ?_)
       · refine cy_seq ?_
         refine cy_region ?_
         refine sy_move rfl rfl rfl ?_
         refine sy_call rfl call_51 rfl (quoted_c s _ hs h0) rfl rfl ?_
         refine sy_extract rfl rfl rfl rfl ?_
         refine sy_extract rfl rfl rfl rfl ?_
         refine sy_extract rfl rfl rfl rfl ?_
         first | refine sy_stl 0 sz_65 rfl rfl rfl rfl rfl rfl rfl rfl ?_ | refine sy_stl 1 sz_65 rfl rfl rfl rfl rfl rfl rfl rfl ?_ | refine sy_stl 2 sz_65 rfl rfl rfl rfl rfl rfl rfl rfl ?_ | refine sy_stl 3 sz_65 rfl rfl rfl rfl rfl rfl rfl rfl ?_
         refine sy_assign rfl rfl rfl ?_
         refine sy_assign rfl rfl rfl ?_
         refine sy_nil rfl ?_
         refine ny_next ?_
         refine cy_ret ?_
         refine ny_blockR ?_
         refine ny_thenR ?_
         first | refine ny_finR (rescT 0 rfl agg_65 rfl rfl rfl rfl rfl) (fun w hs2 => ⟨?_, hs2.frm⟩) | refine ny_finR (rescT 1 rfl agg_65 rfl rfl rfl rfl rfl) (fun w hs2 => ⟨?_, hs2.frm⟩) | refine ny_finR (rescT 2 rfl agg_65 rfl rfl rfl rfl rfl) (fun w hs2 => ⟨?_, hs2.frm⟩) | refine ny_finR (rescT 3 rfl agg_65 rfl rfl rfl rfl rfl) (fun w hs2 => ⟨?_, hs2.frm⟩)
         unfold oneC
         simp only [*, if_true, if_false, Bool.false_eq_true, Bool.true_eq_false, Bool.or_true, Bool.true_or, Bool.or_false, Bool.false_or, ext_take]
         rfl
       · refine cy_seq ?_
         refine cy_region ?_
         refine sy_move rfl rfl rfl ?_
         refine sy_call rfl call_52 rfl (ib_c _ c _) rfl rfl ?_
         refine sy_cmp rfl rfl rfl rfl rfl ?_
         refine sy_assign rfl rfl rfl ?_
         refine sy_nil rfl ?_
         refine ny_next ?_
         refine cy_cond rfl (fun hc40 => ?_) (fun hc40 => ?_)
         · have hpu : punctL.contains c = true := (idx_has punctL c).symm.trans hc40
           refine cy_region ?_
           refine sy_field fld_65_0 rfl rfl rfl ?_
           first | refine sy_stl 0 sz_3 rfl rfl rfl rfl rfl rfl rfl rfl ?_ | refine sy_stl 1 sz_3 rfl rfl rfl rfl rfl rfl rfl rfl ?_ | refine sy_stl 2 sz_3 rfl rfl rfl rfl rfl rfl rfl rfl ?_ | refine sy_stl 3 sz_3 rfl rfl rfl rfl rfl rfl rfl rfl ?_
           refine sy_nil rfl ?_
           refine ny_blockN ?_
           refine ny_next ?_
           refine cy_seq ?_
           refine cy_region ?_
           refine sy_move rfl rfl rfl ?_
           refine sy_move rfl rfl rfl ?_
           refine sy_strto Tryd.underlying9 rfl rfl (by omega) rfl rfl ?_
           refine sy_field fld_65_1 rfl rfl rfl ?_
           first | refine sy_stl 0 sz_9 rfl rfl rfl rfl rfl rfl rfl rfl ?_ | refine sy_stl 1 sz_9 rfl rfl rfl rfl rfl rfl rfl rfl ?_ | refine sy_stl 2 sz_9 rfl rfl rfl rfl rfl rfl rfl rfl ?_ | refine sy_stl 3 sz_9 rfl rfl rfl rfl rfl rfl rfl rfl ?_
           refine sy_nil rfl ?_
           refine ny_next ?_
           refine cy_seq ?_
           refine cy_region ?_
           first | refine sy_ldar 0 agg_65 rfl rfl rfl rfl rfl ?_ | refine sy_ldar 1 agg_65 rfl rfl rfl rfl rfl ?_ | refine sy_ldar 2 agg_65 rfl rfl rfl rfl rfl ?_ | refine sy_ldar 3 agg_65 rfl rfl rfl rfl rfl ?_
           refine sy_move rfl rfl rfl ?_
           first | refine sy_stl 0 sz_65 rfl rfl rfl rfl rfl rfl rfl rfl ?_ | refine sy_stl 1 sz_65 rfl rfl rfl rfl rfl rfl rfl rfl ?_ | refine sy_stl 2 sz_65 rfl rfl rfl rfl rfl rfl rfl rfl ?_ | refine sy_stl 3 sz_65 rfl rfl rfl rfl rfl rfl rfl rfl ?_
           refine sy_assign rfl rfl rfl ?_
           refine sy_assign rfl rfl rfl ?_
           refine sy_nil rfl ?_
           refine ny_next ?_
           refine cy_ret ?_
           first | refine ny_finR (rescT 0 rfl agg_65 rfl rfl rfl rfl rfl) (fun w hs2 => ⟨?_, hs2.frm⟩) | refine ny_finR (rescT 1 rfl agg_65 rfl rfl rfl rfl rfl) (fun w hs2 => ⟨?_, hs2.frm⟩) | refine ny_finR (rescT 2 rfl agg_65 rfl rfl rfl rfl rfl) (fun w hs2 => ⟨?_, hs2.frm⟩) | refine ny_finR (rescT 3 rfl agg_65 rfl rfl rfl rfl rfl) (fun w hs2 => ⟨?_, hs2.frm⟩)
           unfold oneC
           simp only [*, if_true, if_false, Bool.false_eq_true, Bool.true_eq_false, Bool.or_true, Bool.true_or, Bool.or_false, Bool.false_or, ext_take]
           rfl
         · have hpu : punctL.contains c = false := (idx_has punctL c).symm.trans hc40
           refine cy_seq ?_
           refine cy_region ?_
           refine sy_move rfl rfl rfl ?_
           refine sy_cmp rfl rfl rfl rfl rfl ?_
           refine sy_move rfl rfl rfl ?_
           refine sy_cond (d := 48) _ rfl rfl (fun hg48 => ?_) (fun hg48 => ?_)
           · refine sy_skip rfl rfl rfl ?_
             refine sy_skip rfl rfl rfl ?_
             refine sy_pickT rfl rfl rfl rfl ?_
             refine sy_assign rfl rfl rfl ?_
             refine sy_nil rfl ?_
             refine ny_next ?_
             refine cy_condT rfl ?_
             refine cy_skip ?_
             refine ny_blockN ?_
             refine ny_next ?_
             refine cy_seq ?_
             refine cy_region ?_
             refine sy_move rfl rfl rfl ?_
             refine sy_move rfl rfl rfl ?_
             refine sy_strto Tryd.underlying9 rfl rfl (by omega) rfl rfl ?_
             refine sy_field fld_65_1 rfl rfl rfl ?_
             first | refine sy_stl 0 sz_9 rfl rfl rfl rfl rfl rfl rfl rfl ?_ | refine sy_stl 1 sz_9 rfl rfl rfl rfl rfl rfl rfl rfl ?_ | refine sy_stl 2 sz_9 rfl rfl rfl rfl rfl rfl rfl rfl ?_ | refine sy_stl 3 sz_9 rfl rfl rfl rfl rfl rfl rfl rfl ?_
             refine sy_nil rfl ?_
             refine ny_next ?_
             refine cy_seq ?_
             refine cy_region ?_
             first | refine sy_ldar 0 agg_65 rfl rfl rfl rfl rfl ?_ | refine sy_ldar 1 agg_65 rfl rfl rfl rfl rfl ?_ | refine sy_ldar 2 agg_65 rfl rfl rfl rfl rfl ?_ | refine sy_ldar 3 agg_65 rfl rfl rfl rfl rfl ?_
             refine sy_move rfl rfl rfl ?_
             first | refine sy_stl 0 sz_65 rfl rfl rfl rfl rfl rfl rfl rfl ?_ | refine sy_stl 1 sz_65 rfl rfl rfl rfl rfl rfl rfl rfl ?_ | refine sy_stl 2 sz_65 rfl rfl rfl rfl rfl rfl rfl rfl ?_ | refine sy_stl 3 sz_65 rfl rfl rfl rfl rfl rfl rfl rfl ?_
             refine sy_assign rfl rfl rfl ?_
             refine sy_assign rfl rfl rfl ?_
             refine sy_nil rfl ?_
             refine ny_next ?_
             refine cy_ret ?_
             first | refine ny_finR (rescT 0 rfl agg_65 rfl rfl rfl rfl rfl) (fun w hs2 => ⟨?_, hs2.frm⟩) | refine ny_finR (rescT 1 rfl agg_65 rfl rfl rfl rfl rfl) (fun w hs2 => ⟨?_, hs2.frm⟩) | refine ny_finR (rescT 2 rfl agg_65 rfl rfl rfl rfl rfl) (fun w hs2 => ⟨?_, hs2.frm⟩) | refine ny_finR (rescT 3 rfl agg_65 rfl rfl rfl rfl rfl) (fun w hs2 => ⟨?_, hs2.frm⟩)
             unfold oneC
             simp only [*, if_true, if_false, Bool.false_eq_true, Bool.true_eq_false, Bool.or_true, Bool.true_or, Bool.or_false, Bool.false_or, ext_take]
             rfl
           · refine sy_move rfl rfl rfl ?_
             refine sy_cmp rfl rfl rfl rfl rfl ?_
             refine sy_pickF rfl rfl rfl rfl ?_
             refine sy_assign rfl rfl rfl ?_
             refine sy_nil rfl ?_
             refine ny_next ?_
             refine cy_cond rfl (fun hc45 => ?_) (fun hc45 => ?_)
             · refine cy_skip ?_
               refine ny_blockN ?_
               refine ny_next ?_
               refine cy_seq ?_
               refine cy_region ?_
               refine sy_move rfl rfl rfl ?_
               refine sy_move rfl rfl rfl ?_
               refine sy_strto Tryd.underlying9 rfl rfl (by omega) rfl rfl ?_
               refine sy_field fld_65_1 rfl rfl rfl ?_
               first | refine sy_stl 0 sz_9 rfl rfl rfl rfl rfl rfl rfl rfl ?_ | refine sy_stl 1 sz_9 rfl rfl rfl rfl rfl rfl rfl rfl ?_ | refine sy_stl 2 sz_9 rfl rfl rfl rfl rfl rfl rfl rfl ?_ | refine sy_stl 3 sz_9 rfl rfl rfl rfl rfl rfl rfl rfl ?_
               refine sy_nil rfl ?_
               refine ny_next ?_
               refine cy_seq ?_
               refine cy_region ?_
               first | refine sy_ldar 0 agg_65 rfl rfl rfl rfl rfl ?_ | refine sy_ldar 1 agg_65 rfl rfl rfl rfl rfl ?_ | refine sy_ldar 2 agg_65 rfl rfl rfl rfl rfl ?_ | refine sy_ldar 3 agg_65 rfl rfl rfl rfl rfl ?_
               refine sy_move rfl rfl rfl ?_
               first | refine sy_stl 0 sz_65 rfl rfl rfl rfl rfl rfl rfl rfl ?_ | refine sy_stl 1 sz_65 rfl rfl rfl rfl rfl rfl rfl rfl ?_ | refine sy_stl 2 sz_65 rfl rfl rfl rfl rfl rfl rfl rfl ?_ | refine sy_stl 3 sz_65 rfl rfl rfl rfl rfl rfl rfl rfl ?_
               refine sy_assign rfl rfl rfl ?_
               refine sy_assign rfl rfl rfl ?_
               refine sy_nil rfl ?_
               refine ny_next ?_
               refine cy_ret ?_
               first | refine ny_finR (rescT 0 rfl agg_65 rfl rfl rfl rfl rfl) (fun w hs2 => ⟨?_, hs2.frm⟩) | refine ny_finR (rescT 1 rfl agg_65 rfl rfl rfl rfl rfl) (fun w hs2 => ⟨?_, hs2.frm⟩) | refine ny_finR (rescT 2 rfl agg_65 rfl rfl rfl rfl rfl) (fun w hs2 => ⟨?_, hs2.frm⟩) | refine ny_finR (rescT 3 rfl agg_65 rfl rfl rfl rfl rfl) (fun w hs2 => ⟨?_, hs2.frm⟩)
               unfold oneC
               simp only [*, if_true, if_false, Bool.false_eq_true, Bool.true_eq_false, Bool.or_true, Bool.true_or, Bool.or_false, Bool.false_or, ext_take]
               rfl
             · refine cy_seq ?_
               refine cy_region ?_
               refine sy_move rfl rfl rfl ?_
               refine sy_call rfl call_53 rfl (ends_c s _ hs) rfl rfl ?_
               refine sy_assign rfl rfl rfl ?_
               refine sy_nil rfl ?_
               refine ny_next ?_
               refine cy_cond rfl (fun hc52 => ?_) (fun hc52 => ?_)
               · refine cy_region ?_
                 refine sy_field fld_65_0 rfl rfl rfl ?_
                 first | refine sy_stl 0 sz_3 rfl rfl rfl rfl rfl rfl rfl rfl ?_ | refine sy_stl 1 sz_3 rfl rfl rfl rfl rfl rfl rfl rfl ?_ | refine sy_stl 2 sz_3 rfl rfl rfl rfl rfl rfl rfl rfl ?_ | refine sy_stl 3 sz_3 rfl rfl rfl rfl rfl rfl rfl rfl ?_
                 refine sy_nil rfl ?_
                 refine ny_blockN ?_
                 refine ny_next ?_
                 refine cy_seq ?_
                 refine cy_region ?_
                 refine sy_move rfl rfl rfl ?_
                 refine sy_move rfl rfl rfl ?_
                 refine sy_strto Tryd.underlying9 rfl rfl (by omega) rfl rfl ?_
                 refine sy_field fld_65_1 rfl rfl rfl ?_
                 first | refine sy_stl 0 sz_9 rfl rfl rfl rfl rfl rfl rfl rfl ?_ | refine sy_stl 1 sz_9 rfl rfl rfl rfl rfl rfl rfl rfl ?_ | refine sy_stl 2 sz_9 rfl rfl rfl rfl rfl rfl rfl rfl ?_ | refine sy_stl 3 sz_9 rfl rfl rfl rfl rfl rfl rfl rfl ?_
                 refine sy_nil rfl ?_
                 refine ny_next ?_
                 refine cy_seq ?_
                 refine cy_region ?_
                 first | refine sy_ldar 0 agg_65 rfl rfl rfl rfl rfl ?_ | refine sy_ldar 1 agg_65 rfl rfl rfl rfl rfl ?_ | refine sy_ldar 2 agg_65 rfl rfl rfl rfl rfl ?_ | refine sy_ldar 3 agg_65 rfl rfl rfl rfl rfl ?_
                 refine sy_move rfl rfl rfl ?_
                 first | refine sy_stl 0 sz_65 rfl rfl rfl rfl rfl rfl rfl rfl ?_ | refine sy_stl 1 sz_65 rfl rfl rfl rfl rfl rfl rfl rfl ?_ | refine sy_stl 2 sz_65 rfl rfl rfl rfl rfl rfl rfl rfl ?_ | refine sy_stl 3 sz_65 rfl rfl rfl rfl rfl rfl rfl rfl ?_
                 refine sy_assign rfl rfl rfl ?_
                 refine sy_assign rfl rfl rfl ?_
                 refine sy_nil rfl ?_
                 refine ny_next ?_
                 refine cy_ret ?_
                 first | refine ny_finR (rescT 0 rfl agg_65 rfl rfl rfl rfl rfl) (fun w hs2 => ⟨?_, hs2.frm⟩) | refine ny_finR (rescT 1 rfl agg_65 rfl rfl rfl rfl rfl) (fun w hs2 => ⟨?_, hs2.frm⟩) | refine ny_finR (rescT 2 rfl agg_65 rfl rfl rfl rfl rfl) (fun w hs2 => ⟨?_, hs2.frm⟩) | refine ny_finR (rescT 3 rfl agg_65 rfl rfl rfl rfl rfl) (fun w hs2 => ⟨?_, hs2.frm⟩)
                 unfold oneC
                 simp only [*, if_true, if_false, Bool.false_eq_true, Bool.true_eq_false, Bool.or_true, Bool.true_or, Bool.or_false, Bool.false_or, ext_take]
                 rfl
               · refine cy_seq ?_
                 refine cy_region ?_
                 refine sy_move rfl rfl rfl ?_
                 refine sy_call rfl call_54 rfl (sign_c c _) rfl rfl ?_
                 refine sy_assign rfl rfl rfl ?_
                 refine sy_nil rfl ?_
                 refine ny_next ?_
                 refine cy_cond rfl (fun hc56 => ?_) (fun hc56 => ?_)
                 · refine cy_region ?_
                   refine sy_move rfl rfl rfl ?_
                   refine sy_call rfl call_43 rfl (row_c s 54 signB _ (by omega) call_54 (fun c h => sign_c c h)) rfl rfl ?_
                   have hrl := runB_le signB s.data.toList
                   have hsz0 : s.data.toList.length = s.size := rfl
                   refine sy_assign rfl rfl rfl ?_
                   refine sy_nil rfl ?_
                   refine ny_blockN ?_
                   refine ny_next ?_
                   refine cy_seq ?_
                   refine cy_region ?_
                   refine sy_move rfl rfl rfl ?_
                   refine sy_move rfl rfl rfl ?_
                   refine sy_strto Tryd.underlying9 rfl rfl (by omega) rfl rfl ?_
                   refine sy_field fld_65_1 rfl rfl rfl ?_
                   first | refine sy_stl 0 sz_9 rfl rfl rfl rfl rfl rfl rfl rfl ?_ | refine sy_stl 1 sz_9 rfl rfl rfl rfl rfl rfl rfl rfl ?_ | refine sy_stl 2 sz_9 rfl rfl rfl rfl rfl rfl rfl rfl ?_ | refine sy_stl 3 sz_9 rfl rfl rfl rfl rfl rfl rfl rfl ?_
                   refine sy_nil rfl ?_
                   refine ny_next ?_
                   refine cy_seq ?_
                   refine cy_region ?_
                   first | refine sy_ldar 0 agg_65 rfl rfl rfl rfl rfl ?_ | refine sy_ldar 1 agg_65 rfl rfl rfl rfl rfl ?_ | refine sy_ldar 2 agg_65 rfl rfl rfl rfl rfl ?_ | refine sy_ldar 3 agg_65 rfl rfl rfl rfl rfl ?_
                   refine sy_move rfl rfl rfl ?_
                   first | refine sy_stl 0 sz_65 rfl rfl rfl rfl rfl rfl rfl rfl ?_ | refine sy_stl 1 sz_65 rfl rfl rfl rfl rfl rfl rfl rfl ?_ | refine sy_stl 2 sz_65 rfl rfl rfl rfl rfl rfl rfl rfl ?_ | refine sy_stl 3 sz_65 rfl rfl rfl rfl rfl rfl rfl rfl ?_
                   refine sy_assign rfl rfl rfl ?_
                   refine sy_assign rfl rfl rfl ?_
                   refine sy_nil rfl ?_
                   refine ny_next ?_
                   refine cy_ret ?_
                   first | refine ny_finR (rescT 0 rfl agg_65 rfl rfl rfl rfl rfl) (fun w hs2 => ⟨?_, hs2.frm⟩) | refine ny_finR (rescT 1 rfl agg_65 rfl rfl rfl rfl rfl) (fun w hs2 => ⟨?_, hs2.frm⟩) | refine ny_finR (rescT 2 rfl agg_65 rfl rfl rfl rfl rfl) (fun w hs2 => ⟨?_, hs2.frm⟩) | refine ny_finR (rescT 3 rfl agg_65 rfl rfl rfl rfl rfl) (fun w hs2 => ⟨?_, hs2.frm⟩)
                   unfold oneC
                   simp only [*, if_true, if_false, Bool.false_eq_true, Bool.true_eq_false, Bool.or_true, Bool.true_or, Bool.or_false, Bool.false_or, ext_take]
                   rfl
                 · refine cy_seq ?_
                   refine cy_region ?_
                   refine sy_build rfl (fun w => bld_65_ w) rfl rfl ?_
                   refine sy_call rfl call_31 rfl (bad_c _ _ _) rfl rfl ?_
                   first | refine sy_stl 0 sz_65 rfl rfl rfl rfl rfl rfl rfl rfl ?_ | refine sy_stl 1 sz_65 rfl rfl rfl rfl rfl rfl rfl rfl ?_ | refine sy_stl 2 sz_65 rfl rfl rfl rfl rfl rfl rfl rfl ?_ | refine sy_stl 3 sz_65 rfl rfl rfl rfl rfl rfl rfl rfl ?_
                   refine sy_assign rfl rfl rfl ?_
                   refine sy_assign rfl rfl rfl ?_
                   refine sy_nil rfl ?_
                   refine ny_next ?_
                   refine cy_ret ?_
                   refine ny_blockR ?_
                   refine ny_thenR ?_
                   first | refine ny_finR (rescT 0 rfl agg_65 rfl rfl rfl rfl rfl) (fun w hs2 => ⟨?_, hs2.frm⟩) | refine ny_finR (rescT 1 rfl agg_65 rfl rfl rfl rfl rfl) (fun w hs2 => ⟨?_, hs2.frm⟩) | refine ny_finR (rescT 2 rfl agg_65 rfl rfl rfl rfl rfl) (fun w hs2 => ⟨?_, hs2.frm⟩) | refine ny_finR (rescT 3 rfl agg_65 rfl rfl rfl rfl rfl) (fun w hs2 => ⟨?_, hs2.frm⟩)
                   unfold oneC
                   simp only [*, if_true, if_false, Bool.false_eq_true, Bool.true_eq_false, Bool.or_true, Bool.true_or, Bool.or_false, Bool.false_or, ext_take]
                   rfl
end Go.Proofs.YtanhhihechakhaaDoor
set_option linter.unusedVariables false
set_option linter.unusedSimpArgs false
namespace Go.Proofs.YtanhhihechakhaaDoor
open Go.RowKit Go.Proofs.YtanhhihechakhaaDoor.E Go.Proofs.YtanhhihechakhaaDoor.ReplP Go.Proofs.YtanhhihechakhaaDoor.TokP
theorem nilB_err (T : Nat) (e : Option (ByteArray × Int)) : nilB (errV T e) = some e.isNone := by cases e <;> rfl
def scV (T : Nat) (r : Sc) (x : Option Addr × Nat) : Value := match r with
 | .ok ts => .tuple #[.slice x.1 ts.length x.2, .int .i64 0, .nilIface]
 | .bad i w e => .tuple #[.slice none 0 0, .int .i64 (i : Int), .iface T (.agg #[.string w, .int .i64 e])]
def scR (r : Sc) (x : Option Addr × Nat) (h : Hp) : Prop := match r with
 | .ok ts => RowsAt h x.1 5 (ts.map tkC) ∧ ts.length ≤ x.2
 | .bad _ _ _ => True
theorem tkC_len (l : List Tk) : ∀ c ∈ l.map tkC, c.length = 5 := fun c hc => by
 obtain ⟨t, _, rfl⟩ := List.mem_map.1 hc
 rfl
theorem tkC_snoc (l : List Tk) (t : Tk) : ((l ++ [t]).map tkC).flatten = (l.map tkC).flatten ++ [.int .i64 t.a.kind, .string t.a.str, .int .i64 t.a.num, .bool t.a.quo, .bool t.tight] := by
 rw [List.map_append, List.flatten_append]
 simp [tkC]
set_option maxRecDepth 100000 in
theorem scan_c (s : ByteArray) (h : Hp) : CX Tryd.prog 20 [.string s] h (scV 84 (scanA s.data.toList)) (scR (scanA s.data.toList)) := by
 refine enterX Tryd.func20 rfl rfl rfl (fun w => ?_)
 refine cy_seq ?_
 refine cy_region ?_
 refine sy_assign rfl rfl rfl ?_
 refine sy_assign rfl rfl rfl ?_
 refine sy_assign rfl rfl rfl ?_
 refine sy_nil rfl ?_
 refine ny_next ?_
 refine cy_seq ?_
 refine cy_seq ?_
 refine cy_region ?_
 refine sy_move rfl rfl rfl ?_
 refine sy_len rfl (len_string Tryd.underlying9 _) rfl rfl ?_
 refine sy_cmp rfl rfl rfl rfl rfl ?_
 refine sy_nil rfl ?_
 refine ny_next ?_
 refine cy_cond rfl (fun hc13 => ?_) (fun hc13 => ?_)
 · refine cy_seq ?_
   refine cy_region ?_
   refine sy_call rfl call_31 rfl (bad_c _ _ _) rfl rfl ?_
   refine sy_assign rfl rfl rfl ?_
   refine sy_assign rfl rfl rfl ?_
   refine sy_assign rfl rfl rfl ?_
   refine sy_nil rfl ?_
   refine ny_next ?_
   refine cy_ret ?_
   refine ny_thenR ?_
   have hbig : 4096 < s.data.toList.length := by have h9 := of_decide_eq_true hc13; have h8 : s.data.toList.length = s.size := rfl; omega
   refine ny_finR (res3 rfl rfl rfl rfl) (fun w hs2 => ⟨(none, 0), _, ?_, ?_, hs2.toGrow⟩)
   · unfold scanA; rw [if_pos hbig]; rfl
   · unfold scanA; rw [if_pos hbig]; trivial
 · have hnb : ¬ 4096 < s.data.toList.length := by have h9 := of_decide_eq_false hc13; have h8 : s.data.toList.length = s.size := rfl; omega
   have hs : s.size ≤ 70368744177600 := by have h8 : s.data.toList.length = s.size := rfl; omega
   refine cy_skip ?_
   refine ny_next ?_
   refine cy_seq ?_
   refine cy_region ?_
   refine sy_assign rfl rfl rfl ?_
   refine sy_nil rfl ?_
   refine ny_next ?_
   refine cy_seq ?_
   refine cy_region ?_
   refine sy_assign rfl rfl rfl ?_
   refine sy_nil rfl ?_
   refine ny_next ?_
   refine cy_block ?_
   refine cy_nilRow 65 5 ?_
   refine cy_loopK (ι := Nat × List Tk × Value) [0] rfl (fun z => z.1 ≤ s.size ∧ z.2.1.length ≤ z.1 ∧ scanF s.data.toList (s.size + 1 - z.1) z.1 z.2.1 = scanF s.data.toList (s.size + 1) 0 []) (fun z => s.size - z.1) (fun z => [(5, z.2.2), (6, .int .i64 (z.1 : Int))]) (fun z => h) (fun z => [Res.row z.2.2 65 5 (z.2.1).length (((z.2.1).map tkC).flatten)]) (0, [], .slice none 0 0) [0] ⟨Nat.zero_le _, Nat.zero_le _, rfl⟩ ⟨rfl, rfl, trivial⟩ rfl rfl ?_
   rintro ⟨i, acc, v5⟩ ⟨hI, hol, hpre⟩
   simp only at hI hol hpre ⊢
   have hsz : s.data.toList.length = s.size := rfl
   obtain ⟨k, hk⟩ : ∃ k, s.size + 1 - i = k + 1 := ⟨s.size - i, by omega⟩
   have hcap : acc.length ≤ 4096 := by omega
   have hroom := skip_room (l := s.data.toList) hI
   refine cy_block ?_
   refine cy_seq ?_
   refine cy_region ?_
   refine sy_move rfl rfl rfl ?_
   refine sy_move rfl rfl rfl ?_
   refine sy_strfrom Tryd.underlying9 rfl rfl (by omega) rfl rfl ?_
   have hx18 : (s.extract i s.size).size ≤ 70368744177600 := by
    have h9 : (s.extract i s.size).size = (s.extract i s.size).data.toList.length := rfl
    rw [h9, ext_from, List.length_drop]
    omega
   refine sy_call rfl call_32 rfl (skip_c (s.extract i s.size) _ hx18) rfl rfl ?_
   rw [ext_from]
   refine sy_assign rfl rfl rfl ?_
   refine sy_nil rfl ?_
   refine ny_next ?_
   refine cy_seq ?_
   refine cy_region ?_
   refine sy_move rfl rfl rfl ?_
   refine sy_move rfl rfl rfl ?_
   refine sy_addi (z := (((i + skipN (s.data.toList.drop i)) : Nat) : Int)) rfl rfl (by omega) (by omega) (by omega) rfl rfl ?_
   refine sy_assign rfl rfl rfl ?_
   refine sy_nil rfl ?_
   refine ny_next ?_
   refine cy_seq ?_
   refine cy_seq ?_
   refine cy_region ?_
   refine sy_move rfl rfl rfl ?_
   refine sy_move rfl rfl rfl ?_
   refine sy_len rfl (len_string Tryd.underlying9 _) rfl rfl ?_
   refine sy_cmp rfl rfl rfl rfl rfl ?_
   refine sy_nil rfl ?_
   refine ny_next ?_
   refine cy_cond rfl (fun hc25 => ?_) (fun hc25 => ?_)
   · have hend : (i + skipN (s.data.toList.drop i)) = s.data.toList.length := by have h9 : (((i + skipN (s.data.toList.drop i)) : Nat) : Int) = (s.size : Int) := (by simpa using hc25); omega
     refine cy_frzRow 0 rfl (fun _ _ => by simp) (fun A9 c9 h9 hv9 hlc9 hcm9 _ hle9 hcell9 => ?_)
     subst hv9
     have hr9 : RowsAt h9 A9 5 (acc.map tkC) := rows_row (by decide) (tkC_len _) hcell9
     refine cy_seq ?_
     refine cy_region ?_
     refine sy_move rfl rfl rfl ?_
     refine sy_assign rfl rfl rfl ?_
     refine sy_assign rfl rfl rfl ?_
     refine sy_assign rfl rfl rfl ?_
     refine sy_nil rfl ?_
     refine ny_next ?_
     refine cy_ret ?_
     refine ny_thenR ?_
     refine ny_blockR ?_
     refine ny_thenR ?_
     refine ny_blockR ?_
     have hres : scanA s.data.toList = .ok acc := by unfold scanA; rw [if_neg hnb]; show scanF s.data.toList (s.size + 1) 0 [] = _; rw [← hpre, hk]; exact scan_done hend
     refine ny_finR (res3 rfl rfl rfl rfl) (fun w hs2 => ⟨(A9, c9), h9, ?_, ?_, hs2.toGrow⟩)
     · rw [hres]; rfl
     · rw [hres]; exact ⟨hr9, hlc9⟩
   · have hne : ¬ (i + skipN (s.data.toList.drop i)) = s.data.toList.length := by
      intro h9
      rw [hsz] at h9
      rw [h9] at hc25
      simp at hc25
     refine cy_skip ?_
     refine ny_next ?_
     refine cy_seq ?_
     refine cy_region ?_
     refine sy_move rfl rfl rfl ?_
     refine sy_move rfl rfl rfl ?_
     refine sy_strfrom Tryd.underlying9 rfl rfl (by omega) rfl rfl ?_
     have hx31 : (s.extract (i + skipN (s.data.toList.drop i)) s.size).size ≤ 70368744177600 := by
      have h9 : (s.extract (i + skipN (s.data.toList.drop i)) s.size).size = (s.extract (i + skipN (s.data.toList.drop i)) s.size).data.toList.length := rfl
      rw [h9, ext_from, List.length_drop]
      omega
     have hlt : (i + skipN (s.data.toList.drop i)) < s.data.toList.length := by omega
     have hdr := drop_at (List.getElem?_eq_getElem hlt)
     have hc31 : (s.extract (i + skipN (s.data.toList.drop i)) s.size).data.toList[0]? = some (firstC (s.data.toList.drop (i + skipN (s.data.toList.drop i)))) := by rw [ext_from, hdr]; rfl
     have hz31 : 1 ≤ (s.extract (i + skipN (s.data.toList.drop i)) s.size).size := by
      have h9 : (s.extract (i + skipN (s.data.toList.drop i)) s.size).size = (s.extract (i + skipN (s.data.toList.drop i)) s.size).data.toList.length := rfl
      rw [h9, ext_from, List.length_drop]
      omega
     refine sy_call rfl call_33 rfl (one_c (s.extract (i + skipN (s.data.toList.drop i)) s.size) _ _ hx31 hz31 hc31) rfl rfl ?_
     rw [ext_from]
     refine sy_move rfl rfl rfl ?_
     refine sy_extract rfl rfl rfl rfl ?_
     refine sy_extract rfl rfl rfl rfl ?_
     refine sy_extract rfl rfl rfl rfl ?_
     refine sy_alloc zer_65 rfl rfl (fun b8 hb8 hM8 => ?_) (by simp)
     first | refine sy_stl 0 sz_65 rfl rfl rfl rfl rfl rfl rfl rfl ?_ | refine sy_stl 1 sz_65 rfl rfl rfl rfl rfl rfl rfl rfl ?_ | refine sy_stl 2 sz_65 rfl rfl rfl rfl rfl rfl rfl rfl ?_ | refine sy_stl 3 sz_65 rfl rfl rfl rfl rfl rfl rfl rfl ?_
     refine sy_assign rfl rfl rfl ?_
     refine sy_assign rfl rfl rfl ?_
     refine sy_nil rfl ?_
     refine ny_next ?_
     refine cy_seq ?_
     refine cy_seq ?_
     refine cy_region ?_
     refine sy_move rfl rfl rfl ?_
     refine sy_eqn (e := (oneC (firstC (s.data.toList.drop (i + skipN (s.data.toList.drop i)))) (s.data.toList.drop (i + skipN (s.data.toList.drop i)))).err.isNone) Tryd.underlying47 rfl (nilB_err _ _) rfl rfl rfl ?_
     refine sy_move rfl rfl rfl ?_
     refine sy_cond (d := 37) _ rfl rfl (fun hg37 => ?_) (fun hg37 => ?_)
     · refine sy_field fld_65_1 rfl rfl rfl ?_
       first | refine sy_ldr 0 one_9 rfl rfl rfl rfl rfl ?_ | refine sy_ldr 1 one_9 rfl rfl rfl rfl rfl ?_ | refine sy_ldr 2 one_9 rfl rfl rfl rfl rfl ?_ | refine sy_ldr 3 one_9 rfl rfl rfl rfl rfl ?_
       refine sy_len rfl (len_string Tryd.underlying9 _) rfl rfl ?_
       refine sy_cmp rfl rfl rfl rfl rfl ?_
       refine sy_pickT rfl rfl rfl rfl ?_
       refine sy_nil rfl ?_
       refine ny_next ?_
       refine cy_cond rfl (fun hc42 => ?_) (fun hc42 => ?_)
       · have herr : errA (oneC (firstC (s.data.toList.drop (i + skipN (s.data.toList.drop i)))) (s.data.toList.drop (i + skipN (s.data.toList.drop i)))) = some (n1, 3) := by
          unfold errA
          rw [if_pos ⟨Option.isNone_iff_eq_none.1 hg37, by have h9 := of_decide_eq_true hc42; omega⟩]
         refine cy_region ?_
         refine sy_call rfl call_31 rfl (bad_c _ _ _) rfl rfl ?_
         refine sy_assign rfl rfl rfl ?_
         refine sy_nil rfl ?_
         refine ny_next ?_
         refine cy_seq ?_
         refine cy_seq ?_
         refine cy_region ?_
         refine sy_move rfl rfl rfl ?_
         refine sy_eqn Tryd.underlying47 rfl rfl rfl rfl rfl ?_
         refine sy_setT (d := 45) rfl rfl rfl ?_
         refine sy_nil rfl ?_
         refine ny_next ?_
         refine cy_condT rfl ?_
         refine cy_seq ?_
         refine cy_region ?_
         refine sy_move rfl rfl rfl ?_
         refine sy_move rfl rfl rfl ?_
         refine sy_assign rfl rfl rfl ?_
         refine sy_assign rfl rfl rfl ?_
         refine sy_assign rfl rfl rfl ?_
         refine sy_nil rfl ?_
         refine ny_next ?_
         refine cy_ret ?_
         refine ny_thenR ?_
         refine ny_blockR ?_
         refine ny_thenR ?_
         refine ny_blockR ?_
         refine ny_finR (res3 rfl rfl rfl rfl) (fun w hs2 => ?_)
         have hres : scanA s.data.toList = .bad (i + skipN (s.data.toList.drop i)) n1 3 := by { unfold scanA; rw [if_neg hnb]; show scanF s.data.toList (s.size + 1) 0 [] = _; rw [← hpre, hk]; exact scan_bad hne herr }
         exact ⟨(none, 0), _, by { rw [hres]; rfl }, by { rw [hres]; trivial }, hs2.toGrow⟩
       · have herr : errA (oneC (firstC (s.data.toList.drop (i + skipN (s.data.toList.drop i)))) (s.data.toList.drop (i + skipN (s.data.toList.drop i)))) = none := by
          unfold errA
          rw [if_neg (by rintro ⟨_, h9⟩; have h8 := of_decide_eq_false hc42; omega)]
          exact Option.isNone_iff_eq_none.1 hg37
         have hus := scan_used hI hne herr
         refine cy_skip ?_
         refine ny_next ?_
         refine cy_seq ?_
         refine cy_seq ?_
         refine cy_region ?_
         refine sy_move rfl rfl rfl ?_
         refine sy_eqn (e := (oneC (firstC (s.data.toList.drop (i + skipN (s.data.toList.drop i)))) (s.data.toList.drop (i + skipN (s.data.toList.drop i)))).err.isNone) Tryd.underlying47 rfl (nilB_err _ _) rfl rfl rfl ?_
         refine sy_setF (d := 45) rfl rfl (by rw [hg37]; rfl) ?_
         refine sy_nil rfl ?_
         refine ny_next ?_
         refine cy_condF rfl ?_
         refine cy_skip ?_
         refine ny_next ?_
         refine cy_seq ?_
         refine cy_region ?_
         refine sy_move rfl rfl rfl ?_
         refine sy_cmp rfl rfl rfl rfl rfl ?_
         refine sy_move rfl rfl rfl ?_
         refine sy_cond (d := 50) _ rfl rfl (fun hg50 => ?_) (fun hg50 => ?_)
         · refine sy_move rfl rfl rfl ?_
           refine sy_rowform 1 rfl (fun A5 c5 hv5 => ?_)
           subst hv5
           refine sy_len rfl (len_slice Tryd.underlying45 _ _ _) rfl rfl ?_
           refine sy_cmp rfl rfl rfl rfl rfl ?_
           refine sy_pickT rfl rfl rfl rfl ?_
           refine sy_field fld_65_4 rfl rfl rfl ?_
           first | refine sy_stl 0 sz_4 rfl rfl rfl rfl rfl rfl rfl rfl ?_ | refine sy_stl 1 sz_4 rfl rfl rfl rfl rfl rfl rfl rfl ?_ | refine sy_stl 2 sz_4 rfl rfl rfl rfl rfl rfl rfl rfl ?_ | refine sy_stl 3 sz_4 rfl rfl rfl rfl rfl rfl rfl rfl ?_
           refine sy_nil rfl ?_
           refine ny_next ?_
           refine cy_seq ?_
           refine cy_region ?_
           refine sy_move rfl rfl rfl ?_
           first | refine sy_ldar 0 agg_65 rfl rfl rfl rfl rfl ?_ | refine sy_ldar 1 agg_65 rfl rfl rfl rfl rfl ?_ | refine sy_ldar 2 agg_65 rfl rfl rfl rfl rfl ?_ | refine sy_ldar 3 agg_65 rfl rfl rfl rfl rfl ?_
           refine sy_buildSlice rfl (fun w => bsl_45_1_0 w) rfl rfl (fun b58 hb58 hM58 => ?_) (by simp)
           refine sy_append 2 0 row_45 (by decide) rfl rfl rfl rfl rfl rfl (by omega) (by simp only [maxLen]; omega) rfl rfl (fun v59 => ?_)
           refine sy_assign rfl rfl rfl ?_
           refine sy_nil rfl ?_
           refine ny_next ?_
           refine cy_region ?_
           refine sy_move rfl rfl rfl ?_
           refine sy_move rfl rfl rfl ?_
           refine sy_addi (z := (((i + skipN (s.data.toList.drop i)) + (oneC (firstC (s.data.toList.drop (i + skipN (s.data.toList.drop i)))) (s.data.toList.drop (i + skipN (s.data.toList.drop i)))).used : Nat) : Int)) rfl rfl (by omega) (by omega) (by omega) rfl rfl ?_
           refine sy_assign rfl rfl rfl ?_
           refine sy_nil rfl ?_
           refine ny_blockN ?_
           refine ny_roundK [0] ((i + skipN (s.data.toList.drop i)) + (oneC (firstC (s.data.toList.drop (i + skipN (s.data.toList.drop i)))) (s.data.toList.drop (i + skipN (s.data.toList.drop i)))).used, acc ++ [Tk.mk (oneC (firstC (s.data.toList.drop (i + skipN (s.data.toList.drop i)))) (s.data.toList.drop (i + skipN (s.data.toList.drop i)))) (decide (skipN (s.data.toList.drop i) = 0) && decide (0 < acc.length))], v59) [0] ⟨hus.2, by show (acc ++ [_]).length ≤ _; rw [List.length_append]; simp only [List.length_cons, List.length_nil]; omega, by rw [← hpre, hk, scan_more hne herr]; exact scan_fuel _ _ _ _ hus.2 (by omega) (by omega)⟩ (show s.size - ((i + skipN (s.data.toList.drop i)) + (oneC (firstC (s.data.toList.drop (i + skipN (s.data.toList.drop i)))) (s.data.toList.drop (i + skipN (s.data.toList.drop i)))).used) < s.size - i by omega) rfl ⟨rfl, rfl, trivial⟩ rfl (by have htg : (decide (skipN (s.data.toList.drop i) = 0) && decide (0 < acc.length)) = decide ((0 : Int) < ((acc.length : Nat) : Int)) := by { rw [decide_eq_true (show skipN (s.data.toList.drop i) = 0 by simpa using hg50), Bool.true_and]; exact decide_eq_decide.2 (by omega) }; show _ = some [Res.row v59 65 5 (acc ++ [Tk.mk (oneC (firstC (s.data.toList.drop (i + skipN (s.data.toList.drop i)))) (s.data.toList.drop (i + skipN (s.data.toList.drop i)))) (decide (skipN (s.data.toList.drop i) = 0) && decide (0 < acc.length))]).length (((acc ++ [Tk.mk (oneC (firstC (s.data.toList.drop (i + skipN (s.data.toList.drop i)))) (s.data.toList.drop (i + skipN (s.data.toList.drop i)))) (decide (skipN (s.data.toList.drop i) = 0) && decide (0 < acc.length))]).map tkC).flatten)]; rw [htg, tkC_snoc, List.length_append]; rfl)
         · refine sy_skip rfl rfl rfl ?_
           refine sy_skip rfl rfl rfl ?_
           refine sy_skip rfl rfl rfl ?_
           refine sy_pickF rfl rfl rfl rfl ?_
           refine sy_field fld_65_4 rfl rfl rfl ?_
           first | refine sy_stl 0 sz_4 rfl rfl rfl rfl rfl rfl rfl rfl ?_ | refine sy_stl 1 sz_4 rfl rfl rfl rfl rfl rfl rfl rfl ?_ | refine sy_stl 2 sz_4 rfl rfl rfl rfl rfl rfl rfl rfl ?_ | refine sy_stl 3 sz_4 rfl rfl rfl rfl rfl rfl rfl rfl ?_
           refine sy_nil rfl ?_
           refine ny_next ?_
           refine cy_seq ?_
           refine cy_region ?_
           refine sy_move rfl rfl rfl ?_
           first | refine sy_ldar 0 agg_65 rfl rfl rfl rfl rfl ?_ | refine sy_ldar 1 agg_65 rfl rfl rfl rfl rfl ?_ | refine sy_ldar 2 agg_65 rfl rfl rfl rfl rfl ?_ | refine sy_ldar 3 agg_65 rfl rfl rfl rfl rfl ?_
           refine sy_buildSlice rfl (fun w => bsl_45_1_0 w) rfl rfl (fun b58 hb58 hM58 => ?_) (by simp)
           refine sy_append 2 0 row_45 (by decide) rfl rfl rfl rfl rfl rfl (by omega) (by simp only [maxLen]; omega) rfl rfl (fun v59 => ?_)
           refine sy_assign rfl rfl rfl ?_
           refine sy_nil rfl ?_
           refine ny_next ?_
           refine cy_region ?_
           refine sy_move rfl rfl rfl ?_
           refine sy_move rfl rfl rfl ?_
           refine sy_addi (z := (((i + skipN (s.data.toList.drop i)) + (oneC (firstC (s.data.toList.drop (i + skipN (s.data.toList.drop i)))) (s.data.toList.drop (i + skipN (s.data.toList.drop i)))).used : Nat) : Int)) rfl rfl (by omega) (by omega) (by omega) rfl rfl ?_
           refine sy_assign rfl rfl rfl ?_
           refine sy_nil rfl ?_
           refine ny_blockN ?_
           refine ny_roundK [0] ((i + skipN (s.data.toList.drop i)) + (oneC (firstC (s.data.toList.drop (i + skipN (s.data.toList.drop i)))) (s.data.toList.drop (i + skipN (s.data.toList.drop i)))).used, acc ++ [Tk.mk (oneC (firstC (s.data.toList.drop (i + skipN (s.data.toList.drop i)))) (s.data.toList.drop (i + skipN (s.data.toList.drop i)))) (decide (skipN (s.data.toList.drop i) = 0) && decide (0 < acc.length))], v59) [0] ⟨hus.2, by show (acc ++ [_]).length ≤ _; rw [List.length_append]; simp only [List.length_cons, List.length_nil]; omega, by rw [← hpre, hk, scan_more hne herr]; exact scan_fuel _ _ _ _ hus.2 (by omega) (by omega)⟩ (show s.size - ((i + skipN (s.data.toList.drop i)) + (oneC (firstC (s.data.toList.drop (i + skipN (s.data.toList.drop i)))) (s.data.toList.drop (i + skipN (s.data.toList.drop i)))).used) < s.size - i by omega) rfl ⟨rfl, rfl, trivial⟩ rfl (by have htg : (decide (skipN (s.data.toList.drop i) = 0) && decide (0 < acc.length)) = false := by { rw [decide_eq_false (show ¬ skipN (s.data.toList.drop i) = 0 by simpa using hg50), Bool.false_and] }; show _ = some [Res.row v59 65 5 (acc ++ [Tk.mk (oneC (firstC (s.data.toList.drop (i + skipN (s.data.toList.drop i)))) (s.data.toList.drop (i + skipN (s.data.toList.drop i)))) (decide (skipN (s.data.toList.drop i) = 0) && decide (0 < acc.length))]).length (((acc ++ [Tk.mk (oneC (firstC (s.data.toList.drop (i + skipN (s.data.toList.drop i)))) (s.data.toList.drop (i + skipN (s.data.toList.drop i)))) (decide (skipN (s.data.toList.drop i) = 0) && decide (0 < acc.length))]).map tkC).flatten)]; rw [htg, tkC_snoc, List.length_append]; rfl)
     · obtain ⟨x9, hx9⟩ : ∃ x9, (oneC (firstC (s.data.toList.drop (i + skipN (s.data.toList.drop i)))) (s.data.toList.drop (i + skipN (s.data.toList.drop i)))).err = some x9 := Option.ne_none_iff_exists'.1 (fun h9 => by rw [h9] at hg37; simp at hg37)
       have herr : errA (oneC (firstC (s.data.toList.drop (i + skipN (s.data.toList.drop i)))) (s.data.toList.drop (i + skipN (s.data.toList.drop i)))) = some x9 := by
        unfold errA
        rw [if_neg (by rintro ⟨h9, _⟩; rw [hx9] at h9; cases h9), hx9]
       refine sy_skip rfl rfl rfl ?_
       refine sy_skip rfl rfl rfl ?_
       refine sy_skip rfl rfl rfl ?_
       refine sy_skip rfl rfl rfl ?_
       refine sy_pickF rfl rfl rfl rfl ?_
       refine sy_nil rfl ?_
       refine ny_next ?_
       refine cy_condF rfl ?_
       refine cy_skip ?_
       refine ny_next ?_
       refine cy_seq ?_
       refine cy_seq ?_
       refine cy_region ?_
       refine sy_move rfl rfl rfl ?_
       refine sy_eqn (e := (oneC (firstC (s.data.toList.drop (i + skipN (s.data.toList.drop i)))) (s.data.toList.drop (i + skipN (s.data.toList.drop i)))).err.isNone) Tryd.underlying47 rfl (nilB_err _ _) rfl rfl rfl ?_
       refine sy_setT (d := 45) rfl rfl (by rw [hg37]; rfl) ?_
       refine sy_nil rfl ?_
       refine ny_next ?_
       refine cy_condT rfl ?_
       refine cy_seq ?_
       refine cy_region ?_
       refine sy_move rfl rfl rfl ?_
       refine sy_move rfl rfl rfl ?_
       refine sy_assign rfl rfl rfl ?_
       refine sy_assign rfl rfl rfl ?_
       refine sy_assign rfl rfl rfl ?_
       refine sy_nil rfl ?_
       refine ny_next ?_
       refine cy_ret ?_
       refine ny_thenR ?_
       refine ny_blockR ?_
       refine ny_thenR ?_
       refine ny_blockR ?_
       refine ny_finR (res3 rfl rfl rfl rfl) (fun w hs2 => ?_)
       have hres : scanA s.data.toList = .bad (i + skipN (s.data.toList.drop i)) x9.1 x9.2 := by { unfold scanA; rw [if_neg hnb]; show scanF s.data.toList (s.size + 1) 0 [] = _; rw [← hpre, hk]; exact scan_bad hne herr }
       exact ⟨(none, 0), _, by { rw [hres, hx9]; rfl }, by { rw [hres]; trivial }, hs2.toGrow⟩
end Go.Proofs.YtanhhihechakhaaDoor
set_option linter.unusedVariables false
set_option linter.unusedSimpArgs false
namespace Go.Proofs.YtanhhihechakhaaDoor.E
open Go.RowKit
section
variable {m : Md} {P : Program} {ops : Array Oper} {Q : Exit → Act → World → Prop} {n : Nat} {D : List Deferred} {w0 : World} {M : List Nat} {h0 : Hp}
variable {f : Tab} {h : Hp} {H : List Res} {rest : List Oper} {o : Oper}
variable {d t s : Nat} {p : String} {af : Array Edge} {g : Option (Nat × Bool)}
theorem run_rem8 {a b : Nat} (h1 : 0 < b) (hb : b ≤ 255) (ha : a ≤ 255) (w : World) : (binOp .rem s (.int .u8 (a : Int)) (.int .u8 (b : Int))).run P w = .ok (.int .u8 ((a % b : Nat) : Int)) w := by
 have h5 : ¬ (b : Int) = 0 := by omega
 have h6 : ¬ (b : Int) = -1 := by omega
 have hz : Int.tmod (a : Int) (b : Int) = ((a % b : Nat) : Int) := rfl
 have hm : a % b < b := Nat.mod_lt _ h1
 have h7 := IntWalk.u8_in ((a % b : Nat) : Int) ⟨by omega, by omega⟩
 have h8 : ¬ b = 0 := by omega
 simp [binOp, Op.intDiv, h8, hz] at h7 ⊢
 try exact h7
theorem sy_rem8 {x y : Operand} {a b : Nat} {s2 : Nat} (hx : f.ev x = some (.int .u8 (a : Int))) (hy : f.ev y = some (.int .u8 (b : Int))) (h1 : 0 < b) (hb : b ≤ 255) (ha : a ≤ 255) (hw : gok ops f g = some true) (hn : Nat.blt d n = true)
    (k : Sy m P ops Q n D w0 M h0 rest ((d, .int .u8 ((a % b : Nat) : Int)) :: f) h H) : Sy m P ops Q n D w0 M h0 (⟨some d, .binOp .rem s x y s2, t, p, af, g⟩ :: rest) f h H :=
 sy_bin hx hy ⟨by simp, by simp⟩ (fun w => run_rem8 h1 hb ha w) hw hn k
end
end Go.Proofs.YtanhhihechakhaaDoor.E
namespace Go.Proofs
open Go.Shelf
open Go.RowKit in
open Go.RowKit Go.Lib in
open Go.Lib in
open Go.Lib in
def Tryd.lays107_ren : Go.Shelf.Ren := ⟨fun | 107 => 24 | 108 => 42 | n => n, fun | 28 => 27 | 3 => 3 | 4 => 4 | 0 => 0 | n => n, fun | n => n⟩
theorem Tryd.lays107 : Go.Proofs.Lays.n107 Tryd.prog Tryd.lays107_ren := {
 mixed := by kernel_rfl
 f107 := Tryd.func24.trans (congrArg some (by kernel_rfl))
 f108 := Tryd.func42.trans (congrArg some (by kernel_rfl))
 t0 := Tryd.underlying0
 a0 := Tryd.isAgg0
 z0 := Tryd.sizeOf0
 v0 := Tryd.zeroValue0
 t3 := Tryd.underlying3
 a3 := Tryd.isAgg3
 z3 := Tryd.sizeOf3
 v3 := Tryd.zeroValue3
 t4 := Tryd.underlying4
 a4 := Tryd.isAgg4
 z4 := Tryd.sizeOf4
 v4 := Tryd.zeroValue4
 t28 := Tryd.underlying27
 a28 := Tryd.isAgg27
 z28 := Tryd.sizeOf27
 v28 := Tryd.zeroValue27 }
open Go.Lib in
theorem Tryd.slices_Contains_int (b off n c : Nat) (zs : List Int) (x : Int) (w : World) (hz : n ≤ zs.length) (hbig : n ≤ 9223372036854775807) (hc : ∀ j, j < zs.length → w.cell? ⟨b, off + j, none⟩ = some (.int .i64 (zs.getD j 0))) :
    Calls Tryd.prog 24 #[.slice (some ⟨b, off, none⟩) n c, .int .i64 x] w fun e w' => e = .returned (.bool ((zs.take n).contains x)) ∧ w' = w := Any.slices_Contains_int Tryd.lays107 b off n c zs x w hz hbig hc
open Go.Lib in
theorem Tryd.slices_Contains_int_empty (a : Option Addr) (c : Nat) (x : Int) (w : World) :
    Calls Tryd.prog 24 #[.slice a 0 c, .int .i64 x] w fun e w' => e = .returned (.bool false) ∧ w' = w := Any.slices_Contains_int_empty Tryd.lays107 a c x w
end Go.Proofs
set_option linter.unusedVariables false
namespace Go.Proofs.YtanhhihechakhaaDoor
open Go.RowKit Go.Proofs.YtanhhihechakhaaDoor.E
def Tab10 (h : Hp) : Prop := ∀ w, h.Sub w → Lib.TabIs Tryd.prog w "internal/strconv.uint64pow10" .u64 Lib.pow10Tab
theorem Tab10.le {h h' : Hp} (ht : Tab10 h) (hl : h.Le h') : Tab10 h' := fun w hw => ht w fun k o hk => hw k o (hl k o hk)
theorem contains_c (A : Option Addr) (c : Nat) (zs : List Int) (x : Int) (h : Hp) (hr : RowsAt h A 1 (zs.map fun z => [Value.int .i64 z])) (hN : zs.length ≤ 9223372036854775807) :
    C0 Tryd.prog 24 [.slice A zs.length c, .int .i64 x] h (.bool (zs.contains x)) := fun w hw => by
 cases zs with
 | nil =>
  refine (Tryd.slices_Contains_int_empty A c x w).mono fun e w' ⟨he, hg⟩ => ⟨he, ?_⟩
  subst hg
  exact Frm.refl _ _
 | cons z r =>
  obtain ⟨b, off, rfl⟩ : ∃ b off, A = some ⟨b, off, none⟩ := by
   obtain ⟨b, off, hb, _⟩ := hr 0 _ rfl
   exact ⟨b, off, hb⟩
  have hc : ∀ j, j < (z :: r).length → w.cell? ⟨b, off + j, none⟩ = some (.int .i64 ((z :: r).getD j 0)) := fun j hj => by
   have hj2 : (z :: r)[j]? = some ((z :: r)[j]'hj) := List.getElem?_eq_getElem hj
   have h1 := hr.get (j := j) (c := [Value.int .i64 ((z :: r)[j]'hj)]) (by rw [List.getElem?_map, hj2]; rfl)
   have h2 := h1 0 _ rfl
   simp only [Nat.mul_one, Nat.add_zero] at h2
   rw [List.getD_eq_getElem?_getD, hj2]
   exact hw.cell h2
  refine (Tryd.slices_Contains_int b off (z :: r).length c (z :: r) x w (Nat.le_refl _) hN hc).mono fun e w' ⟨he, hg⟩ => ⟨?_, ?_⟩
  · rw [he, List.take_length]
  · subst hg
    exact Frm.refl _ _
end Go.Proofs.YtanhhihechakhaaDoor
set_option linter.unusedVariables false
set_option linter.unusedSimpArgs false
namespace Go.Proofs.YtanhhihechakhaaDoor
open Go.RowKit Go.Proofs.YtanhhihechakhaaDoor.E Go.Proofs.YtanhhihechakhaaDoor.ReplP Go.Proofs.YtanhhihechakhaaDoor.TokP Go.Proofs.YtanhhihechakhaaDoor.TermP Go.Proofs.YtanhhihechakhaaDoor.WrP
set_option maxRecDepth 100000 in
theorem num_c (n : Int) (h : Hp) : C0 Tryd.prog 15 [.int .i64 n] h (.agg (GT.cells (GT.mk 2 n ⟨#[]⟩ none 0 [])).toArray) := by
 refine enter0 Tryd.func15 rfl rfl rfl (fun w => ?_)
 refine cy_seq ?_
 refine cy_region ?_
 refine sy_alloc zer_30 rfl rfl (fun b2 hb2 hM2 => ?_) (by simp)
 refine sy_nil rfl ?_
 refine ny_next ?_
 refine cy_seq ?_
 refine cy_region ?_
 refine sy_move rfl rfl rfl ?_
 refine sy_build rfl (fun w => bld_30_0x1 w) rfl rfl ?_
 first | refine sy_stl 0 sz_30 rfl rfl rfl rfl rfl rfl rfl rfl ?_
 refine sy_nil rfl ?_
 refine ny_next ?_
 refine cy_ret ?_
 refine ny_finR (rescS 0 rfl agg_30 rfl rfl rfl) (fun w hs => ⟨rfl, hs.frm⟩)
set_option maxRecDepth 100000 in
theorem let_c (n : Int) (h : Hp) : C0 Tryd.prog 19 [.int .i64 n] h (.agg (GT.cells (GT.mk 1 n ⟨#[]⟩ none 0 [])).toArray) := by
 refine enter0 Tryd.func19 rfl rfl rfl (fun w => ?_)
 refine cy_seq ?_
 refine cy_region ?_
 refine sy_alloc zer_30 rfl rfl (fun b2 hb2 hM2 => ?_) (by simp)
 refine sy_nil rfl ?_
 refine ny_next ?_
 refine cy_seq ?_
 refine cy_region ?_
 refine sy_move rfl rfl rfl ?_
 refine sy_build rfl (fun w => bld_30_0x1 w) rfl rfl ?_
 first | refine sy_stl 0 sz_30 rfl rfl rfl rfl rfl rfl rfl rfl ?_
 refine sy_nil rfl ?_
 refine ny_next ?_
 refine cy_ret ?_
 refine ny_finR (rescS 0 rfl agg_30 rfl rfl rfl) (fun w hs => ⟨rfl, hs.frm⟩)
set_option maxRecDepth 100000 in
theorem clone0_c (h : Hp) : C0 Tryd.prog 29 [.slice none 0 0] h (.slice none 0 0) := by
 refine enter0 Tryd.func29 rfl rfl rfl (fun w => ?_)
 refine cy_seq ?_
 refine cy_region ?_
 refine sy_assign rfl rfl rfl ?_
 refine sy_nil rfl ?_
 refine ny_next ?_
 refine cy_seq ?_
 refine cy_seq ?_
 refine cy_region ?_
 refine sy_move rfl rfl rfl ?_
 refine sy_eqsl (b := true) Tryd.underlying23 rfl rfl rfl rfl ?_
 refine sy_setT (d := 4) rfl rfl rfl ?_
 refine sy_nil rfl ?_
 refine ny_next ?_
 refine cy_condT rfl ?_
 refine cy_seq ?_
 refine cy_region ?_
 refine sy_assign rfl rfl rfl ?_
 refine sy_nil rfl ?_
 refine ny_next ?_
 refine cy_ret ?_
 refine ny_thenR ?_
 refine ny_finR (res1 rfl rfl) (fun w hs => ⟨?_, hs.frm⟩)
 rfl
set_option maxRecDepth 100000 in
theorem make0_c (s : ByteArray) (h : Hp) : C0 Tryd.prog 16 [.string s, .slice none 0 0] h (.agg (GT.cells (GT.mk 3 0 s none 0 [])).toArray) := by
 refine enter0 Tryd.func16 rfl rfl rfl (fun w => ?_)
 refine cy_seq ?_
 refine cy_region ?_
 refine sy_alloc zer_30 rfl rfl (fun b4 hb4 hM4 => ?_) (by simp)
 refine sy_nil rfl ?_
 refine ny_next ?_
 refine cy_seq ?_
 refine cy_region ?_
 refine sy_move rfl rfl rfl ?_
 refine sy_move rfl rfl rfl ?_
 refine sy_call rfl call_29 rfl (clone0_c _) rfl rfl ?_
 refine sy_build rfl (fun w => bld_30_0x2x3 w) rfl rfl ?_
 first | refine sy_stl 0 sz_30 rfl rfl rfl rfl rfl rfl rfl rfl ?_
 refine sy_nil rfl ?_
 refine ny_next ?_
 refine cy_ret ?_
 refine ny_finR (rescS 0 rfl agg_30 rfl rfl rfl) (fun w hs => ⟨rfl, hs.frm⟩)
set_option maxRecDepth 100000 in
theorem atom_c (s : ByteArray) (h : Hp) : C0 Tryd.prog 18 [.string s] h (.agg (GT.cells (GT.mk 3 0 s none 0 [])).toArray) := by
 refine enter0 Tryd.func18 rfl rfl rfl (fun w => ?_)
 refine cy_seq ?_
 refine cy_region ?_
 refine sy_alloc zer_30 rfl rfl (fun b2 hb2 hM2 => ?_) (by simp)
 refine sy_nil rfl ?_
 refine ny_next ?_
 refine cy_seq ?_
 refine cy_region ?_
 refine sy_move rfl rfl rfl ?_
 refine sy_call rfl call_16 rfl (make0_c s _) rfl rfl ?_
 first | refine sy_stl 0 sz_30 rfl rfl rfl rfl rfl rfl rfl rfl ?_
 refine sy_nil rfl ?_
 refine ny_next ?_
 refine cy_ret ?_
 refine ny_finR (rescS 0 rfl agg_30 rfl rfl rfl) (fun w hs => ⟨rfl, hs.frm⟩)
set_option maxRecDepth 100000 in
theorem clone_c (A : Option Addr) (c : Nat) (kids : List GT) (h : Hp) (hA : A.isNone = false) (hr : RowsAt h A 4 (kids.map GT.cells)) (hb : kids.length ≤ 1048576) : CX Tryd.prog 29 [.slice A kids.length c] h (fun x : Option Addr × Nat => .slice x.1 kids.length x.2) (fun x h' => RowsAt h' x.1 4 (kids.map GT.cells) ∧ kids.length ≤ x.2) := by
 refine enterX Tryd.func29 rfl rfl rfl (fun w => ?_)
 refine cy_seq ?_
 refine cy_region ?_
 refine sy_assign rfl rfl rfl ?_
 refine sy_nil rfl ?_
 refine ny_next ?_
 refine cy_seq ?_
 refine cy_seq ?_
 refine cy_region ?_
 refine sy_move rfl rfl rfl ?_
 refine sy_eqsl (b := false) Tryd.underlying23 rfl (by rw [hA]) rfl rfl ?_
 refine sy_setF (d := 4) rfl rfl rfl ?_
 refine sy_nil rfl ?_
 refine ny_next ?_
 refine cy_condF rfl ?_
 refine cy_skip ?_
 refine ny_next ?_
 refine cy_seq ?_
 refine cy_region ?_
 refine sy_buildSlice (cs := []) rfl (fun w => bsl_23_0_ w) rfl rfl (fun b5 hb5 hM5 => ?_) (by simp)
 refine sy_asRow (l := 0) (sz := 4) (cs := []) 0 rfl rfl (Nat.zero_le _) ?_
 refine sy_move rfl rfl rfl ?_
 refine sy_appendh (news := (kids.map GT.cells).flatten) 0 row_23 (by decide) rfl rfl rfl (fun h9 => by rw [h9] at hA; cases hA) (by rw [flat_len (GT.cells_len _), List.length_map]) (hr.cells (by decide) (GT.cells_len _)) (GT.cells_ones _) (by omega) (by simp only [maxLen]; omega) rfl rfl (fun v7 => ?_)
 refine sy_frzRow 0 rfl (fun _ _ => by simp) (fun A7 c7 h7 hv7 hlc7 hcm7 _ hle7 hcell7 => ?_)
 rw [Nat.zero_add] at hv7 hlc7
 subst hv7
 rw [List.nil_append] at hcell7
 have hr7 : RowsAt h7 A7 4 (kids.map GT.cells) := rows_row (by decide) (GT.cells_len _) hcell7
 refine sy_assign rfl rfl rfl ?_
 refine sy_nil rfl ?_
 refine ny_next ?_
 refine cy_ret ?_
 exact ny_finR (res1 rfl rfl) (fun w hs => ⟨(A7, c7), h7, rfl, ⟨hr7, hlc7⟩, hs.toGrow⟩)
set_option maxRecDepth 100000 in
theorem make_c (s : ByteArray) (A : Option Addr) (c : Nat) (kids : List GT) (h : Hp) (hA : A.isNone = false) (hr : RowsAt h A 4 (kids.map GT.cells)) (hb : kids.length ≤ 1048576) : CX Tryd.prog 16 [.string s, .slice A kids.length c] h (fun x : Option Addr × Nat => .agg (GT.cells (GT.mk 3 0 s x.1 x.2 kids)).toArray) (fun x h' => RowsAt h' x.1 4 (kids.map GT.cells) ∧ kids.length ≤ x.2) := by
 refine enterX Tryd.func16 rfl rfl rfl (fun w => ?_)
 refine cy_seq ?_
 refine cy_region ?_
 refine sy_alloc zer_30 rfl rfl (fun b4 hb4 hM4 => ?_) (by simp)
 refine sy_nil rfl ?_
 refine ny_next ?_
 refine cy_seq ?_
 refine cy_region ?_
 refine sy_move rfl rfl rfl ?_
 refine sy_move rfl rfl rfl ?_
 refine sy_callx call_29 rfl (clone_c A c kids _ hA hr hb) rfl rfl (fun x7 h7 hx7 hle7 => ?_)
 obtain ⟨A7, c7⟩ := x7
 refine sy_build rfl (fun w => bld_30_0x2x3 w) rfl rfl ?_
 first | refine sy_stl 0 sz_30 rfl rfl rfl rfl rfl rfl rfl rfl ?_
 refine sy_nil rfl ?_
 refine ny_next ?_
 refine cy_ret ?_
 refine ny_finR (rescS 0 rfl agg_30 rfl rfl rfl) (fun w hs => ⟨(A7, c7), h7, rfl, hx7, hs.toGrow⟩)
end Go.Proofs.YtanhhihechakhaaDoor
set_option linter.unusedVariables false
set_option linter.unusedSimpArgs false
namespace Go.Proofs.YtanhhihechakhaaDoor
open Go.RowKit Go.Proofs.YtanhhihechakhaaDoor.E Go.Proofs.YtanhhihechakhaaDoor.ReplP Go.Proofs.YtanhhihechakhaaDoor.TokP Go.Proofs.YtanhhihechakhaaDoor.TermP Go.Proofs.YtanhhihechakhaaDoor.WrP
theorem lies_leaf (h : Hp) (k n : Int) (s : ByteArray) : Lies h (GT.mk k n s none 0 []) := .intro _ _ _ _ _ _ (Nat.le_refl _) (fun j c hj => by simp at hj) (fun t ht => (List.not_mem_nil ht).elim)
theorem fits_leaf {k n : Int} {s : ByteArray} (hk0 : -9223372036854775808 ≤ k) (hk1 : k ≤ 9223372036854775807) (hn0 : -9223372036854775808 ≤ n) (hn1 : n ≤ 9223372036854775807) (hs : s.size ≤ 140737488355328) : Fits (GT.mk k n s none 0 []) := .intro _ _ _ _ _ _ hk0 hk1 hn0 hn1 hs (by simp) (fun t ht => (List.not_mem_nil ht).elim)
theorem fits_kids {k n : Int} {s : ByteArray} {A : Option Addr} {c : Nat} {kids : List GT} (hk0 : -9223372036854775808 ≤ k) (hk1 : k ≤ 9223372036854775807) (hn0 : -9223372036854775808 ≤ n) (hn1 : n ≤ 9223372036854775807) (hs : s.size ≤ 140737488355328) (hl : kids.length ≤ 1048576) (hk : ∀ t ∈ kids, Fits t) : Fits (GT.mk k n s A c kids) := .intro _ _ _ _ _ _ hk0 hk1 hn0 hn1 hs (by omega) hk
theorem tm_leaf (k n : Int) (s : ByteArray) : (GT.mk k n s none 0 []).tm = .mk k n s [] := by rw [GT.tm_mk]; rfl
end Go.Proofs.YtanhhihechakhaaDoor

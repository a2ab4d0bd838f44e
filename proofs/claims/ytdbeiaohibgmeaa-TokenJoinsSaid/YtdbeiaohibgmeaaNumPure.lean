/- Numbers read: their value, step by step; answers of the scanner. Conditions: none; plain lemmas. -/
import Derived.Test.YtdbeiaohibgmeaaSkipPure
set_option linter.unusedVariables false
set_option linter.unusedSimpArgs false
namespace Go.Proofs.Ytdbeiaohibgmeaa.E
open Go.RowKit
section
variable {m : Md} {P : Program} {ops : Array Oper} {Q : Exit → Act → World → Prop} {n : Nat} {D : List Deferred} {w0 : World} {M : List Nat} {h0 : Hp}
variable {f : Tab} {h : Hp} {H : List Res} {rest : List Oper} {o : Oper}
variable {d t s : Nat} {p : String} {af : Array Edge} {g : Option (Nat × Bool)}
theorem sy_subK {x y : Operand} {ik : IntKind} {m1 m2 z : Int} {s2 : Nat} (hx : f.ev x = some (.int ik m1)) (hy : f.ev y = some (.int ik m2)) (hz : ik.wrap (m1 - m2) = z) (hw : gok ops f g = some true) (hn : Nat.blt d n = true)
    (k : Sy m P ops Q n D w0 M h0 rest ((d, .int ik z) :: f) h H) : Sy m P ops Q n D w0 M h0 (⟨some d, .binOp .sub s x y s2, t, p, af, g⟩ :: rest) f h H := sy_sub hx hy hw hn (by rw [hz]; exact k)
theorem sy_addK {x y : Operand} {ik : IntKind} {m1 m2 z : Int} {s2 : Nat} (hx : f.ev x = some (.int ik m1)) (hy : f.ev y = some (.int ik m2)) (hz : ik.wrap (m1 + m2) = z) (hw : gok ops f g = some true) (hn : Nat.blt d n = true)
    (k : Sy m P ops Q n D w0 M h0 rest ((d, .int ik z) :: f) h H) : Sy m P ops Q n D w0 M h0 (⟨some d, .binOp .add s x y s2, t, p, af, g⟩ :: rest) f h H := sy_add hx hy hw hn (by rw [hz]; exact k)
theorem sy_mulK {x y : Operand} {ik : IntKind} {m1 m2 z : Int} {s2 : Nat} (hx : f.ev x = some (.int ik m1)) (hy : f.ev y = some (.int ik m2)) (hz : ik.wrap (m1 * m2) = z) (hw : gok ops f g = some true) (hn : Nat.blt d n = true)
    (k : Sy m P ops Q n D w0 M h0 rest ((d, .int ik z) :: f) h H) : Sy m P ops Q n D w0 M h0 (⟨some d, .binOp .mul s x y s2, t, p, af, g⟩ :: rest) f h H := sy_mul hx hy hw hn (by rw [hz]; exact k)
theorem sy_convK {x : Operand} {i1 i2 : IntKind} {mm z : Int} {s2 : Nat} (hs : P.underlying s = some (.int i1)) (ht : P.underlying s2 = some (.int i2)) (hx : f.ev x = some (.int i1 mm)) (hz : i2.wrap mm = z) (hw : gok ops f g = some true) (hn : Nat.blt d n = true)
    (k : Sy m P ops Q n D w0 M h0 rest ((d, .int i2 z) :: f) h H) : Sy m P ops Q n D w0 M h0 (⟨some d, .convert s s2 x, t, p, af, g⟩ :: rest) f h H := sy_conv hs ht hx hw hn (by rw [hz]; exact k)
theorem run_quoU {a b z : Int} (h1 : 0 < b) (hz : Int.tdiv a b = z) (hl : 0 ≤ z) (hu : z ≤ 18446744073709551615) (w : World) : (binOp .quo s (.int .u64 a) (.int .u64 b)).run P w = .ok (.int .u64 z) w := by
  have h5 : ¬ b = 0 := by omega
  have h6 : ¬ b = -1 := by omega
  subst hz
  simp [binOp, Op.intDiv, h5, IntWalk.u64_in (Int.tdiv a b) ⟨hl, hu⟩]
theorem sy_quoU {x y : Operand} {m1 m2 z : Int} {s2 : Nat} (hx : f.ev x = some (.int .u64 m1)) (hy : f.ev y = some (.int .u64 m2)) (h1 : 0 < m2) (hz : Int.tdiv m1 m2 = z) (hl : 0 ≤ z) (hu : z ≤ 18446744073709551615) (hw : gok ops f g = some true) (hn : Nat.blt d n = true)
    (k : Sy m P ops Q n D w0 M h0 rest ((d, .int .u64 z) :: f) h H) : Sy m P ops Q n D w0 M h0 (⟨some d, .binOp .quo s x y s2, t, p, af, g⟩ :: rest) f h H :=
  sy_bin hx hy ⟨by simp, by simp⟩ (fun w => run_quoU h1 hz hl hu w) hw hn k
theorem rescT {fn : Func} {t u u2 ty e l : Nat} {fr : Nat × Nat} {b : Nat} {cs vs : List Value} {v2 v3 : Value} {H1 : List Res} (i : Nat) (hr : fn.results = #[.cell t ty, .tmp u, .tmp u2]) (hty : aggB P ty l = true) (hv : f.get t = some (.pointer (some ⟨b, 0, none⟩))) (hu : f.get u = some v2) (hu2 : f.get u2 = some v3)
    (hp : pickR i H = some (.blk b (.cells cs.toArray e fr), H1)) (hc : sliceO 0 l cs = some vs) :
    ∀ a w, Holds n [] f a → St w0 M h0 h H w → (results fn a.tmps).run P w = .ok (.tuple #[.agg vs.toArray, v2, v3]) w := fun a w ha hs => by
  have h1 := ha.get t _ hv
  have h2 := ha.get u v2 hu
  have h2b := ha.get u2 v3 hu2
  have hb : w.heap[b]? = some (.cells cs.toArray e fr) := (hs.swap (pickR_perm hp)).ok _ (List.mem_cons_self)
  obtain ⟨h5, h6⟩ := agg_spec hty w
  obtain ⟨h7, h8⟩ := sliceO_spec hc
  subst h7
  have h3 := run_loadCells_list (P := P) w ⟨b, 0, none⟩ vs (fun j u hj => by
    rw [Addr.add_at]
    have := h8 j u hj
    simp only [Nat.zero_add] at this ⊢
    simp [World.cell?, hb, this])
  simp [results, hr, h1, h2, h2b, asAddr, loadVar, h5, h6, h3]
end
end Go.Proofs.Ytdbeiaohibgmeaa.E
namespace Go.Proofs.Ytdbeiaohibgmeaa.TokP
open Go.RowKit Go.Proofs.Ytdbeiaohibgmeaa.E Go.Proofs.Ytdbeiaohibgmeaa.ReplP
/-- what the scanner answers: a token and how many bytes it has, or what is wrong -/
structure Ans where
  kind : Int
  str : ByteArray
  num : Int
  quo : Bool
  used : Nat
  err : Option (ByteArray × Int)
def Ans.tok (k : Int) (s : ByteArray) (n : Int) (q : Bool) (used : Nat) : Ans := ⟨k, s, n, q, used, none⟩
def Ans.bad (what : ByteArray) (e : Int) : Ans := ⟨0, ⟨#[]⟩, 0, false, 0, some (what, e)⟩
def errV (T : Nat) : Option (ByteArray × Int) → Value
  | none => .nilIface
  | some x => .iface T (.agg #[.string x.1, .int .i64 x.2])
def ansV (T : Nat) (a : Ans) : Value := .tuple #[.agg #[.int .i64 a.kind, .string a.str, .int .i64 a.num, .bool a.quo, .bool false], .int .i64 (a.used : Int), errV T a.err]
def valN (l : List UInt8) : Nat := l.foldl (fun a c => 10 * a + (c.toNat - 48)) 0
theorem valN_snoc (l : List UInt8) (c : UInt8) : valN (l ++ [c]) = 10 * valN l + (c.toNat - 48) := by simp [valN]
theorem valN_succ {l : List UInt8} {i : Nat} {c : UInt8} (h : l[i]? = some c) : valN (l.take (i + 1)) = 10 * valN (l.take i) + (c.toNat - 48) := by
  rw [List.take_add_one, h]
  exact valN_snoc _ c
theorem foldl_ge : ∀ (l : List UInt8) (a : Nat), a ≤ l.foldl (fun a c => 10 * a + (c.toNat - 48)) a
  | [], a => Nat.le_refl _
  | c :: l, a => by
    rw [List.foldl_cons]
    have := foldl_ge l (10 * a + (c.toNat - 48))
    omega
theorem valN_le (l : List UInt8) (i : Nat) : valN (l.take i) ≤ valN l := by
  have e : l.take i ++ l.drop i = l := List.take_append_drop i l
  have h1 : valN l = (l.drop i).foldl (fun a c => 10 * a + (c.toNat - 48)) (valN (l.take i)) := by
    conv => lhs; rw [← e]
    unfold valN
    rw [List.foldl_append]
  rw [h1]
  exact foldl_ge _ _
theorem run_yes {p : UInt8 → Bool} : ∀ {l : List UInt8} {c : UInt8}, c ∈ l.take (runB p l) → p c = true
  | [], c, h => by simp [runB] at h
  | b :: l, c, h => by
    cases hb : p b with
    | false =>
      rw [runB_no hb] at h
      simp at h
    | true =>
      rw [runB_yes hb, List.take_succ_cons] at h
      rcases List.mem_cons.1 h with rfl | h
      · exact hb
      · exact run_yes h
def dotB : Option UInt8 → Bool
  | none => false
  | some c => (c.toNat : Int) == 46
def digO : Option UInt8 → Bool
  | none => false
  | some c => digitB c
def dottedB (l : List UInt8) (n : Nat) : Bool := (decide (((n : Int) + 1) < (l.length : Int)) && dotB l[n]?) && digO l[n + 1]?
def w1 : ByteArray := ⟨#[97, 32, 110, 117, 109, 98, 101, 114, 32, 119, 105, 116, 104, 32, 97, 32, 112, 111, 105, 110, 116]⟩
def w2 : ByteArray := ⟨#[97, 32, 110, 117, 109, 98, 101, 114]⟩
def figs (l : List UInt8) : List UInt8 := l.take (runB digitB l)
def numA (l : List UInt8) : Ans := if dottedB l (runB digitB l) = true then .bad w1 4 else if 9223372036854775808 < valN (figs l) then .bad w2 2 else .tok 3 ⟨#[]⟩ (IntKind.i64.wrap ((valN (figs l) : Nat) : Int)) false (runB digitB l)
theorem figs_len (l : List UInt8) : (figs l).length = runB digitB l := by
  unfold figs
  rw [List.length_take, Nat.min_eq_left (runB_le _ _)]
theorem figs_dig {l : List UInt8} {i : Nat} {c : UInt8} (h : (figs l)[i]? = some c) : 48 ≤ c.toNat ∧ c.toNat ≤ 57 := by
  have h1 := run_yes (List.mem_of_getElem? h)
  unfold digitB at h1
  rw [Bool.and_eq_true, decide_eq_true_iff, decide_eq_true_iff] at h1
  omega
end Go.Proofs.Ytdbeiaohibgmeaa.TokP

/- Places of bytes; texts counted; more on texts in which some bytes are replaced. Conditions: none; plain lemmas. -/
import Derived.Test.YtdbeiaohibgmeaaReplPure
import Derived.Laws.Externs
import Derived.Lib.Bytealg
set_option linter.unusedVariables false
set_option linter.unusedSimpArgs false
namespace Go.Proofs.Ytdbeiaohibgmeaa.E
open Go.RowKit
theorem ext_run {P : Program} {F : Nat} {fn : Func} {e : Array Value → Sem Value} {vs : Array Value} {v : Value} {w w' : World} (hf : P.funcs[F]? = some fn) (hname : (fn.name == "runtime.NumGoroutine") = false) (hb : fn.body.isNone = true) (hn : Extern.findNext fn = none) (he : Extern.find fn = some e)
    (hr : (e vs).run P w = .ok v w') : (callFunc F vs).run P w = .ok (.value v) w' := by rw [run_callFunc_extern hf hname hb hn he, hr]; rfl
section
variable {m : Md} {P : Program} {ops : Array Oper} {Q : Exit → Act → World → Prop} {n : Nat} {D : List Deferred} {w0 : World} {M : List Nat} {h0 : Hp}
variable {f : Tab} {h : Hp} {H : List Res} {rest : List Oper} {o : Oper}
variable {d t s : Nat} {p : String} {af : Array Edge} {g : Option (Nat × Bool)}
theorem sy_idxU {x y : Operand} {b len : Nat} {u : UInt8} (hs : arrB P s len 1 = true) (hx : f.ev x = some (.pointer (some ⟨b, 0, none⟩))) (hy : f.ev y = some (.int .u8 (u.toNat : Int))) (h1 : u.toNat < len) (hw : gok ops f g = some true) (hn : Nat.blt d n = true)
    (k : Sy m P ops Q n D w0 M h0 rest ((d, .pointer (some ⟨b, u.toNat, none⟩)) :: f) h H) : Sy m P ops Q n D w0 M h0 (⟨some d, .indexAddr s x y, t, p, af, g⟩ :: rest) f h H :=
  sy_idxA hs hx hy (by omega) (by omega) hw hn (by
    have e : 0 + ((u.toNat : Nat) : Int).toNat * 1 = u.toNat := by rw [Int.toNat_natCast]; omega
    rw [e]
    exact k)
theorem sy_idxB {x y : Operand} {b len cap e k0 : Nat} {ik : IntKind} (hs : elsB P s e 1 = true) (hx : f.ev x = some (.slice (some ⟨b, 0, none⟩) len cap)) (hy : f.ev y = some (.int ik (k0 : Int))) (h1 : k0 < len) (hw : gok ops f g = some true) (hn : Nat.blt d n = true)
    (k : Sy m P ops Q n D w0 M h0 rest ((d, .pointer (some ⟨b, k0, none⟩)) :: f) h H) : Sy m P ops Q n D w0 M h0 (⟨some d, .indexAddr s x y, t, p, af, g⟩ :: rest) f h H :=
  sy_idxS hs hx hy (by omega) (by omega) hw hn (by
    have e : 0 + ((k0 : Nat) : Int).toNat * 1 = k0 := by rw [Int.toNat_natCast]; omega
    rw [e]
    exact k)
theorem sy_cutB {x y : Operand} {b l c e k0 : Nat} {ik : IntKind} (hs : elsB P s e 1 = true) (hx : f.ev x = some (.slice (some ⟨b, 0, none⟩) l c)) (hy : f.ev y = some (.int ik (k0 : Int))) (hk : k0 ≤ l) (hkc : k0 < c) (hw : gok ops f g = some true) (hn : Nat.blt d n = true)
    (k : Sy m P ops Q n D w0 M h0 rest ((d, .slice (some ⟨b, k0, none⟩) (l - k0) (c - k0)) :: f) h H) : Sy m P ops Q n D w0 M h0 (⟨some d, .slice s x (some y) none none, t, p, af, g⟩ :: rest) f h H :=
  sy_cutFrom hs hx hy hk hkc hw hn (by
    have e : 0 + k0 * 1 = k0 := by omega
    rw [e]
    exact k)
end
theorem Hp.blk0 {h : Hp} {g e : Nat} {fr : Nat × Nat} {cs : List Value} (hg : h g = some (.cells cs.toArray e fr)) (i : Nat) {v : Value} (hv : cs[i]? = some v) : h.cell ⟨g, i, none⟩ = some v := by simp [Hp.cell, hg, hv]
theorem ba_at {s : ByteArray} {i : Nat} {u : UInt8} (h : s.data.toList[i]? = some u) : s[((i : Nat) : Int).toNat]? = some u := by
  have hl := (List.getElem?_eq_some_iff.1 h).1
  have hi : i < s.size := by simpa using hl
  have e : ((i : Nat) : Int).toNat = i := Int.toNat_natCast i
  rw [e, getElem?_pos s i hi]
  have h2 := (List.getElem?_eq_some_iff.1 h).2
  rw [← h2]
  rfl
theorem ba_eta (s : ByteArray) : (⟨s.data.toList.toArray⟩ : ByteArray) = s := by
  obtain ⟨⟨l⟩⟩ := s
  rfl
end Go.Proofs.Ytdbeiaohibgmeaa.E
namespace Go.Proofs.Ytdbeiaohibgmeaa.ReplP
open Go.RowKit Go.Proofs.Ytdbeiaohibgmeaa.E
theorem sps_sp {i : Nat} {c : UInt8} (h : sps[i]? = some c) : isSp c = true := by
  have hm := List.mem_of_getElem? h
  simp only [sps, List.mem_cons, List.not_mem_nil, or_false] at hm
  rcases hm with rfl | rfl | rfl <;> rfl
def cntS (l : List UInt8) (i : Nat) : Nat := ((sps.take i).map fun c => l.count c).sum
theorem cntS_succ {l : List UInt8} {i : Nat} {c : UInt8} (h : sps[i]? = some c) : cntS l (i + 1) = cntS l i + l.count c := by
  unfold cntS
  rw [List.take_add_one, h, List.map_append, List.sum_append]
  simp
def anyS (l : List UInt8) (i : Nat) : Bool := (sps.take i).any fun c => decide (l.count c ≠ 0)
theorem anyS_succ {l : List UInt8} {i : Nat} {c : UInt8} (h : sps[i]? = some c) : anyS l (i + 1) = (anyS l i || decide (l.count c ≠ 0)) := by
  unfold anyS
  rw [List.take_add_one, h, List.any_append]
  simp
theorem count_len (l : List UInt8) (c : UInt8) : l.count c ≤ l.length := List.count_le_length
theorem cntS_le (l : List UInt8) (i : Nat) : cntS l i ≤ 3 * l.length := by
  have h1 := count_len l 10
  have h2 := count_len l 92
  have h3 := count_len l 39
  unfold cntS sps
  match i with
  | 0 => simp
  | 1 => simp; omega
  | 2 => simp; omega
  | k + 3 => simp; omega
theorem cntS_all (l : List UInt8) : l.length + cntS l 3 = (repl l).length := by
  rw [repl_count]
  simp [cntS, sps]
  omega
theorem anyS_all (l : List UInt8) : anyS l 3 = l.any isSp := by rw [any_count]; rfl
theorem repl_take_le (l : List UInt8) (i : Nat) : (repl (l.take i)).length ≤ 2 * l.length := by
  have h1 := repl_le (l.take i)
  have h2 : (l.take i).length ≤ l.length := by rw [List.length_take]; omega
  omega
theorem repl_room {l : List UInt8} {i : Nat} {c : UInt8} (h : l[i]? = some c) : (repl (l.take i)).length + (one c).length ≤ (repl l).length := by
  have h1 := repl_take_len l (i + 1)
  rw [repl_snoc h, List.length_append] at h1
  omega
end Go.Proofs.Ytdbeiaohibgmeaa.ReplP

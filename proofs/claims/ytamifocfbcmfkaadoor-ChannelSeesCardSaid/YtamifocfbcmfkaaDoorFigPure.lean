/- Remainders, bytes of numbers; the figures of a number. Conditions: none; plain lemmas. -/
import Derived.Test.YtamifocfbcmfkaaDoorEngAs
import Derived.Lib.ItoaNum
set_option linter.unusedVariables false
set_option linter.unusedSimpArgs false
namespace Go.Proofs.YtamifocfbcmfkaaDoor.E
open Go.RowKit
section
variable {m : Md} {P : Program} {ops : Array Oper} {Q : Exit → Act → World → Prop} {n : Nat} {D : List Deferred} {w0 : World} {M : List Nat} {h0 : Hp}
variable {f : Tab} {h : Hp} {H : List Res} {rest : List Oper} {o : Oper}
variable {d t s : Nat} {p : String} {af : Array Edge} {g : Option (Nat × Bool)}
theorem run_remt {a b z : Int} (h1 : 0 < b) (hb : b ≤ 9223372036854775807) (hz : a.tmod b = z) (w : World) : (binOp .rem s (.int .i64 a) (.int .i64 b)).run P w = .ok (.int .i64 z) w := by
  have h5 : ¬ b = 0 := by omega
  have h6 : ¬ b = -1 := by omega
  have h3 : -b < a.tmod b ∧ a.tmod b < b := by
    have e1 := Int.tmod_lt_of_pos a h1
    have e2 := Int.tmod_lt_of_pos (-a) h1
    rw [Int.neg_tmod] at e2
    omega
  subst hz
  simp [binOp, Op.intDiv, h5, IntWalk.i64_in (a.tmod b) ⟨by omega, by omega⟩]
/-- a remainder, with the sign of what is divided -/
theorem sy_remt {x y : Operand} {m1 m2 z : Int} {s2 : Nat} (hx : f.ev x = some (.int .i64 m1)) (hy : f.ev y = some (.int .i64 m2)) (h1 : 0 < m2) (hb : m2 ≤ 9223372036854775807) (hz : m1.tmod m2 = z) (hw : gok ops f g = some true) (hn : Nat.blt d n = true)
    (k : Sy m P ops Q n D w0 M h0 rest ((d, .int .i64 z) :: f) h H) : Sy m P ops Q n D w0 M h0 (⟨some d, .binOp .rem s x y s2, t, p, af, g⟩ :: rest) f h H :=
  sy_bin hx hy ⟨by simp, by simp⟩ (fun w => run_remt h1 hb hz w) hw hn k
theorem sy_conv8 {x : Operand} {i1 : IntKind} {mm : Int} {s2 : Nat} (hs : P.underlying s = some (.int i1)) (ht : P.underlying s2 = some (.int .u8)) (hx : f.ev x = some (.int i1 mm)) (hl : 0 ≤ mm) (hu : mm ≤ 255) (hw : gok ops f g = some true) (hn : Nat.blt d n = true)
    (k : Sy m P ops Q n D w0 M h0 rest ((d, .int .u8 mm) :: f) h H) : Sy m P ops Q n D w0 M h0 (⟨some d, .convert s s2 x, t, p, af, g⟩ :: rest) f h H :=
  sy_conv hs ht hx hw hn (by rw [IntWalk.u8_in mm ⟨hl, hu⟩]; exact k)
theorem sy_negi {x : Operand} {mm : Int} (hs : P.underlying s = some (.int .i64)) (hx : f.ev x = some (.int .i64 mm)) (hl : -9223372036854775807 ≤ mm) (hu : mm ≤ 9223372036854775807) (hw : gok ops f g = some true) (hn : Nat.blt d n = true)
    (k : Sy m P ops Q n D w0 M h0 rest ((d, .int .i64 (-mm)) :: f) h H) : Sy m P ops Q n D w0 M h0 (⟨some d, .unOp .neg s x, t, p, af, g⟩ :: rest) f h H :=
  sy_val hw rfl hn (fun a w ha _ => by simp [execOp, ha.ev hx, Op.unary, Op.intArith, IntWalk.i64_in (-mm) ⟨by omega, by omega⟩]) k
end
theorem ba_snoc (a : List UInt8) (u : UInt8) : (⟨a.toArray⟩ : ByteArray) ++ ⟨#[u]⟩ = ⟨(a ++ [u]).toArray⟩ := by
  apply ByteArray.ext
  simp
theorem dec_small {u : Nat} (h : u < 10) : Lib.decDigits u = [UInt8.ofNat (48 + u)] := by rw [Lib.decDigits, dif_pos h]
theorem dec_big {u : Nat} (h : ¬ u < 10) : Lib.decDigits u = Lib.decDigits (u / 10) ++ [UInt8.ofNat (48 + u % 10)] := by rw [Lib.decDigits, dif_neg h]
theorem dg_nat {k : Nat} (h : k < 10) : ((48 + k : Nat) : Int) = ((UInt8.ofNat (48 + k)).toNat : Int) := by
  rw [UInt8.toNat_ofNat_of_lt' (by show 48 + k < 256; omega)]
/-- x is negative: how it goes by tens -/
theorem neg_ten {x : Int} (h : x < 0) : x.tmod 10 = -((x.natAbs % 10 : Nat) : Int) ∧ x.tdiv 10 = -((x.natAbs / 10 : Nat) : Int) := by
  obtain ⟨k, hk⟩ : ∃ k : Nat, x = -(k : Int) := ⟨x.natAbs, by omega⟩
  subst hk
  have e1 : (-(k : Int)).natAbs = k := by simp
  rw [e1, Int.neg_tmod, Int.neg_tdiv]
  exact ⟨rfl, rfl⟩
theorem pos_ten {x : Int} (h : 0 ≤ x) : x.tmod 10 = ((x.natAbs % 10 : Nat) : Int) ∧ x.tdiv 10 = ((x.natAbs / 10 : Nat) : Int) := by
  obtain ⟨k, rfl⟩ := Int.eq_ofNat_of_zero_le h
  exact ⟨rfl, rfl⟩
theorem itoa_n1 {x : Int} (h : x < 0) (h1 : -10 < x) : (⟨#[45]⟩ : ByteArray) ++ ⟨#[UInt8.ofNat (48 + x.natAbs % 10)]⟩ = ⟨(Lib.itoa x).toArray⟩ := by
  unfold Lib.itoa
  rw [if_pos h, dec_small (by omega), Nat.mod_eq_of_lt (by omega)]
  exact ba_snoc [45] _
theorem itoa_nR {x : Int} (h : x < 0) (h1 : ¬ -10 < x) : (⟨(Lib.itoa (x.tdiv 10)).toArray⟩ : ByteArray) ++ ⟨#[UInt8.ofNat (48 + x.natAbs % 10)]⟩ = ⟨(Lib.itoa x).toArray⟩ := by
  have e := (neg_ten h).2
  rw [e, ba_snoc]
  unfold Lib.itoa
  have e2 : (-((x.natAbs / 10 : Nat) : Int)).natAbs = x.natAbs / 10 := by rw [Int.natAbs_neg]; rfl
  rw [if_pos h, if_pos (by omega), dec_big (u := x.natAbs) (by omega), e2]
  rfl
theorem itoa_p1 {x : Int} (h : 0 ≤ x) (h1 : x < 10) : (⟨#[UInt8.ofNat (48 + x.natAbs)]⟩ : ByteArray) = ⟨(Lib.itoa x).toArray⟩ := by
  unfold Lib.itoa
  rw [if_neg (by omega), dec_small (by omega)]
  obtain ⟨k, rfl⟩ := Int.eq_ofNat_of_zero_le h
  rfl
theorem itoa_pR {x : Int} (h : 0 ≤ x) (h1 : ¬ x < 10) : (⟨(Lib.itoa (x.tdiv 10)).toArray⟩ : ByteArray) ++ ⟨#[UInt8.ofNat (48 + x.natAbs % 10)]⟩ = ⟨(Lib.itoa x).toArray⟩ := by
  have e := (pos_ten h).2
  rw [e, ba_snoc]
  unfold Lib.itoa
  rw [if_neg (by omega), if_neg (by omega), dec_big (u := x.toNat) (by omega)]
  obtain ⟨k, rfl⟩ := Int.eq_ofNat_of_zero_le h
  rfl
end Go.Proofs.YtamifocfbcmfkaaDoor.E

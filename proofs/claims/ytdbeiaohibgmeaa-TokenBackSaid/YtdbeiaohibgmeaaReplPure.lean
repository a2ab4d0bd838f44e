/- Texts in which some bytes are replaced: as plain functions, and the table as it lies. Conditions: none; plain lemmas. -/
import Derived.Test.YtdbeiaohibgmeaaEngMake
set_option linter.unusedVariables false
set_option linter.unusedSimpArgs false
namespace Go.Proofs.Ytdbeiaohibgmeaa.ReplP
open Go.RowKit Go.Proofs.Ytdbeiaohibgmeaa.E
/-- the bytes that are replaced -/
def sps : List UInt8 := [10, 92, 39]
def isSp (c : UInt8) : Bool := c == 10 || c == 92 || c == 39
def rep (c : UInt8) : List UInt8 := if c = 10 then [92, 110] else if c = 92 then [92, 92] else if c = 39 then [39, 39] else []
def one (c : UInt8) : List UInt8 := if isSp c then rep c else [c]
def repl (l : List UInt8) : List UInt8 := l.flatMap one
theorem rep_len {c : UInt8} (h : isSp c = true) : (rep c).length = 2 := by
  unfold isSp at h
  simp only [Bool.or_eq_true, beq_iff_eq] at h
  rcases h with (rfl | rfl) | rfl <;> rfl
theorem one_sp {c : UInt8} (h : isSp c = true) : one c = rep c := if_pos h
theorem one_no {c : UInt8} (h : isSp c = false) : one c = [c] := if_neg (by rw [h]; decide)
theorem repl_snoc {l : List UInt8} {i : Nat} {c : UInt8} (h : l[i]? = some c) : repl (l.take (i + 1)) = repl (l.take i) ++ one c := by
  unfold repl
  rw [List.take_add_one, h, List.flatMap_append]
  simp
theorem any_snoc {l : List UInt8} {i : Nat} {c : UInt8} (h : l[i]? = some c) : (l.take (i + 1)).any isSp = ((l.take i).any isSp || isSp c) := by
  rw [List.take_add_one, h, List.any_append]
  simp
theorem repl_le : ∀ l : List UInt8, (repl l).length ≤ 2 * l.length
  | [] => by simp [repl]
  | c :: l => by
    have h1 := repl_le l
    have h2 : repl (c :: l) = one c ++ repl l := by simp [repl]
    rw [h2, List.length_append, List.length_cons]
    have h3 : (one c).length ≤ 2 := by
      cases h : isSp c with
      | true => rw [one_sp h, rep_len h]; exact Nat.le_refl _
      | false => rw [one_no h]; simp
    omega
theorem repl_no : ∀ {l : List UInt8}, l.any isSp = false → repl l = l
  | [], _ => rfl
  | c :: l, h => by
    rw [List.any_cons, Bool.or_eq_false_iff] at h
    have h2 : repl (c :: l) = one c ++ repl l := by simp [repl]
    rw [h2, one_no h.1, repl_no h.2]
    rfl
theorem repl_take_len (l : List UInt8) (i : Nat) : (repl (l.take i)).length + (repl (l.drop i)).length = (repl l).length := by
  rw [← List.length_append]
  unfold repl
  rw [← List.flatMap_append, List.take_append_drop]
theorem repl_count : ∀ l : List UInt8, (repl l).length = l.length + (l.count 10 + l.count 92 + l.count 39)
  | [] => rfl
  | c :: l => by
    have h1 := repl_count l
    have h2 : repl (c :: l) = one c ++ repl l := by simp [repl]
    rw [h2, List.length_append, h1, List.length_cons]
    simp only [List.count_cons]
    cases h : isSp c with
    | true =>
      rw [one_sp h, rep_len h]
      unfold isSp at h
      simp only [Bool.or_eq_true, beq_iff_eq] at h
      rcases h with (rfl | rfl) | rfl <;> simp <;> omega
    | false =>
      rw [one_no h]
      unfold isSp at h
      simp only [Bool.or_eq_false_iff] at h
      simp only [h.1.1, h.1.2, h.2]
      simp
      omega
theorem any_count : ∀ l : List UInt8, l.any isSp = (sps.any fun c => decide (l.count c ≠ 0))
  | [] => by simp [sps]
  | c :: l => by
    have h1 := any_count l
    rw [List.any_cons, h1]
    cases h : isSp c with
    | true =>
      unfold isSp at h
      simp only [Bool.or_eq_true, beq_iff_eq] at h
      rcases h with (rfl | rfl) | rfl <;> simp [sps]
    | false =>
      unfold isSp at h
      simp only [Bool.or_eq_false_iff] at h
      simp only [sps, List.any_cons, List.any_nil, List.count_cons, h.1.1, h.1.2, h.2]
      simp
/-! the table -/
def rT (f : UInt8 → Value) (v : Value) : List Value := ((List.range 256).map fun i => f (UInt8.ofNat i)) ++ [v]
theorem rT_len (f : UInt8 → Value) (v : Value) : (rT f v).length = 257 := by simp [rT]
theorem rT_get (f : UInt8 → Value) (v : Value) (c : UInt8) : (rT f v)[c.toNat]? = some (f c) := by
  have hc := c.toNat_lt
  unfold rT
  rw [List.getElem?_append_left (by simpa using hc), List.getElem?_map, List.getElem?_range (by simpa using hc)]
  simp
theorem rT_last (f : UInt8 → Value) (v : Value) : (rT f v)[256]? = some v := by
  unfold rT
  rw [List.getElem?_append_right (by simp)]
  simp
def updC (f : UInt8 → Value) (c : UInt8) (x : Value) : UInt8 → Value := fun k => if k = c then x else f k
theorem rT_set (f : UInt8 → Value) (v x : Value) (c : UInt8) : (rT f v).take c.toNat ++ [x] ++ (rT f v).drop (c.toNat + [x].length) = rT (updC f c x) v := by
  have hc := c.toNat_lt
  have hset : (rT f v).set c.toNat x = (rT f v).take c.toNat ++ [x] ++ (rT f v).drop (c.toNat + [x].length) := by
    rw [List.set_eq_take_append_cons_drop, if_pos (by rw [rT_len]; omega)]
    simp
  rw [← hset]
  apply List.ext_getElem?
  intro i
  rw [List.getElem?_set]
  by_cases h : c.toNat = i
  · rw [if_pos h, if_pos (by rw [rT_len]; omega), ← h, rT_get]
    simp [updC]
  · rw [if_neg h]
    unfold rT
    by_cases hi : i < 256
    · rw [List.getElem?_append_left (by simpa using hi), List.getElem?_append_left (by simpa using hi), List.getElem?_map, List.getElem?_map, List.getElem?_range hi]
      simp only [Option.map_some, updC]
      rw [if_neg]
      intro he
      apply h
      rw [← he]
      simp
      omega
    · rw [List.getElem?_append_right (by simp; omega), List.getElem?_append_right (by simp; omega)]
      simp
theorem rT_set2 (f : UInt8 → Value) (v x : Value) : (rT f v).take 256 ++ [x] ++ (rT f v).drop (256 + [x].length) = rT f x := by
  unfold rT
  rw [List.take_left' (by simp), List.drop_eq_nil_of_le (by simp)]
  simp
theorem rT_all (f f' : UInt8 → Value) (v v' : Value) : (rT f' v').take 0 ++ rT f v ++ (rT f' v').drop (0 + (rT f v).length) = rT f v := by
  rw [List.drop_eq_nil_of_le (by rw [rT_len, rT_len]; omega)]
  simp
theorem rT_ones {f : UInt8 → Value} {v : Value} (h1 : ∀ c, (f c).oneCell' = true) (h2 : v.oneCell' = true) : ones (rT f v) = true := by
  have key : ∀ l : List Value, (∀ x ∈ l, x.oneCell' = true) → ones l = true := fun l => by
    induction l with
    | nil => intro _; rfl
    | cons x l ih =>
      intro h
      unfold ones
      rw [h x (List.mem_cons_self), ih (fun y hy => h y (List.mem_cons_of_mem _ hy))]
      rfl
  refine key _ fun x hx => ?_
  unfold rT at hx
  rcases List.mem_append.1 hx with hx | hx
  · obtain ⟨i, _, rfl⟩ := List.mem_map.1 hx
    exact h1 _
  · simp only [List.mem_singleton] at hx
    subst hx
    exact h2
/-- the table as it lies -/
def ReplT (h : Hp) (T x : Nat) : Prop := ∃ (rA : UInt8 → Option Addr) (rk : UInt8 → Nat) (A3 : Option Addr) (k3 : Nat), h x = some (.cells (rT (fun c => .slice (rA c) (rep c).length (rk c)) (.slice A3 3 k3)).toArray T (0, 0)) ∧ (∀ c, (rA c).isNone = !isSp c) ∧
  (∀ c, isSp c = true → RowsAt h (rA c) 1 ((rep c).map byteC)) ∧ RowsAt h A3 1 (sps.map fun c => [Value.string ⟨#[c]⟩])
theorem ReplT.le {h h' : Hp} {T x : Nat} (ht : ReplT h T x) (hl : h.Le h') : ReplT h' T x := by
  obtain ⟨rA, rk, A3, k3, h1, h2, h3, h4⟩ := ht
  exact ⟨rA, rk, A3, k3, hl _ _ h1, h2, fun c hc => (h3 c hc).le hl, h4.le hl⟩
/-- what goes into NewReplacer -/
def olds : List ByteArray := [⟨#[39]⟩, ⟨#[39, 39]⟩, ⟨#[92]⟩, ⟨#[92, 92]⟩, ⟨#[10]⟩, ⟨#[92, 110]⟩]
theorem repl_form {b1 b2 b3 k1 k2 k3 : Nat} : updC (updC (updC (fun _ => Value.slice none 0 0) 10 (.slice (some ⟨b1, 0, none⟩) 2 k1)) 92 (.slice (some ⟨b2, 0, none⟩) 2 k2)) 39 (.slice (some ⟨b3, 0, none⟩) 2 k3) =
    fun c => Value.slice (if c = 39 then some ⟨b3, 0, none⟩ else if c = 92 then some ⟨b2, 0, none⟩ else if c = 10 then some ⟨b1, 0, none⟩ else none) (rep c).length (if c = 39 then k3 else if c = 92 then k2 else if c = 10 then k1 else 0) := by
  funext c
  unfold updC rep
  by_cases h1 : c = 39
  · subst h1; rfl
  · by_cases h2 : c = 92
    · subst h2; rfl
    · by_cases h3 : c = 10
      · subst h3; rfl
      · simp [h1, h2, h3]
/-- bytes as cells -/
def bv (u : UInt8) : Value := .int .u8 (u.toNat : Int)
theorem st_byte {out : List UInt8} {N : Nat} {c : UInt8} (h : out.length < N) : (out.map bv ++ List.replicate (N - out.length) (Value.int .u8 0)).take out.length ++ [bv c] ++ (out.map bv ++ List.replicate (N - out.length) (Value.int .u8 0)).drop (out.length + [bv c].length) =
    (out ++ [c]).map bv ++ List.replicate (N - (out ++ [c]).length) (Value.int .u8 0) := by
  rw [List.take_left' (by simp), List.drop_append]
  simp
  rw [List.drop_eq_nil_of_le (by simp)]
  simp
  omega
theorem st_bytes {out nw : List UInt8} {N : Nat} (h : out.length + nw.length ≤ N) : (out.map bv ++ List.replicate (N - out.length) (Value.int .u8 0)).take out.length ++ nw.map bv ++ (out.map bv ++ List.replicate (N - out.length) (Value.int .u8 0)).drop (out.length + nw.length) =
    (out ++ nw).map bv ++ List.replicate (N - (out ++ nw).length) (Value.int .u8 0) := by
  rw [List.take_left' (by simp), List.drop_append]
  simp
  rw [List.drop_eq_nil_of_le (by simp)]
  simp
  omega
end Go.Proofs.Ytdbeiaohibgmeaa.ReplP

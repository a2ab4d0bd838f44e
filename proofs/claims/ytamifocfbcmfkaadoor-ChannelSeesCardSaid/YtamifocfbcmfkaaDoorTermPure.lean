/- Terms: by their places in memory, and as they are meant. Conditions: none; plain lemmas. -/
import Derived.Test.YtamifocfbcmfkaaDoorEngLoop
set_option linter.unusedVariables false
set_option linter.unusedSimpArgs false
namespace Go.Proofs.YtamifocfbcmfkaaDoor.TermP
open Go.RowKit Go.Proofs.YtamifocfbcmfkaaDoor.E
/-- A term as it is meant. -/
inductive Tm where
  | mk (k n : Int) (s : ByteArray) (kids : List Tm)
/-- A term as it lies: with the place of its kids. -/
inductive GT where
  | mk (k n : Int) (s : ByteArray) (A : Option Addr) (c : Nat) (kids : List GT)
namespace Tm
def k : Tm → Int | mk k _ _ _ => k
def n : Tm → Int | mk _ n _ _ => n
def s : Tm → ByteArray | mk _ _ s _ => s
def kids : Tm → List Tm | mk _ _ _ l => l
theorem eta (t : Tm) : Tm.mk t.k t.n t.s t.kids = t := by cases t; rfl
theorem ind {P : Tm → Prop} (h : ∀ k n s kids, (∀ t, t ∈ kids → P t) → P (.mk k n s kids)) : ∀ t, P t := fun t =>
  Tm.rec (motive_1 := P) (motive_2 := fun l => ∀ t, t ∈ l → P t) (fun k n s l ih => h k n s l ih) (fun _ ht => (List.not_mem_nil ht).elim)
    (fun x l hx hl t ht => by
      rcases List.mem_cons.1 ht with rfl | ht
      · exact hx
      · exact hl t ht) t
end Tm
namespace GT
def k : GT → Int | mk k _ _ _ _ _ => k
def n : GT → Int | mk _ n _ _ _ _ => n
def s : GT → ByteArray | mk _ _ s _ _ _ => s
def A : GT → Option Addr | mk _ _ _ A _ _ => A
def c : GT → Nat | mk _ _ _ _ c _ => c
def kids : GT → List GT | mk _ _ _ _ _ l => l
theorem ind {P : GT → Prop} (h : ∀ k n s A c kids, (∀ t, t ∈ kids → P t) → P (.mk k n s A c kids)) : ∀ t, P t := fun t =>
  GT.rec (motive_1 := P) (motive_2 := fun l => ∀ t, t ∈ l → P t) (fun k n s A c l ih => h k n s A c l ih) (fun _ ht => (List.not_mem_nil ht).elim)
    (fun x l hx hl t ht => by
      rcases List.mem_cons.1 ht with rfl | ht
      · exact hx
      · exact hl t ht) t
/-- its four cells -/
def cells (t : GT) : List Value := [.int .i64 t.k, .int .i64 t.n, .string t.s, .slice t.A t.kids.length t.c]
mutual
/-- what is meant -/
def tm : GT → Tm | mk k n s _ _ kids => .mk k n s (tms kids)
def tms : List GT → List Tm | [] => [] | t :: l => tm t :: tms l
end
theorem tms_map : ∀ l : List GT, tms l = l.map tm
  | [] => by simp [tms]
  | t :: l => by simp [tms, tms_map l]
theorem tm_mk (k n : Int) (s : ByteArray) (A : Option Addr) (c : Nat) (kids : List GT) : (GT.mk k n s A c kids).tm = .mk k n s (kids.map tm) := by rw [tm, tms_map]
theorem tm_kids (t : GT) : t.tm.kids = t.kids.map tm := by cases t; rw [tm_mk]; rfl
theorem tm_k (t : GT) : t.tm.k = t.k := by cases t; rw [tm_mk]; rfl
theorem tm_n (t : GT) : t.tm.n = t.n := by cases t; rw [tm_mk]; rfl
theorem tm_s (t : GT) : t.tm.s = t.s := by cases t; rw [tm_mk]; rfl
theorem cells_len : ∀ l : List GT, ∀ c ∈ l.map cells, c.length = 4 := fun l c hc => by
  obtain ⟨t, _, rfl⟩ := List.mem_map.1 hc
  rfl
theorem cells_ones (l : List GT) : ∀ u ∈ (l.map cells).flatten, u.oneCell' = true := fun u hu => by
  obtain ⟨c, hc, hu⟩ := List.mem_flatten.1 hu
  obtain ⟨e, _, rfl⟩ := List.mem_map.1 hc
  simp only [cells, List.mem_cons, List.not_mem_nil, or_false] at hu
  rcases hu with rfl | rfl | rfl | rfl <;> rfl
theorem cells_snoc (l : List GT) (t : GT) : ((l ++ [t]).map cells).flatten = (l.map cells).flatten ++ [.int .i64 t.k, .int .i64 t.n, .string t.s, .slice t.A t.kids.length t.c] := by
  rw [List.map_append, List.flatten_append]
  simp [cells]
end GT
/-- It lies so in memory. -/
inductive Lies (h : Hp) : GT → Prop
  | intro (k n : Int) (s : ByteArray) (A : Option Addr) (c : Nat) (kids : List GT) (hc : kids.length ≤ c) (hr : RowsAt h A 4 (kids.map GT.cells)) (hk : ∀ t, t ∈ kids → Lies h t) : Lies h (.mk k n s A c kids)
theorem Lies.rows {h : Hp} {k n : Int} {s : ByteArray} {A : Option Addr} {c : Nat} {kids : List GT} (hl : Lies h (.mk k n s A c kids)) : RowsAt h A 4 (kids.map GT.cells) := by cases hl; assumption
theorem Lies.cap {h : Hp} {k n : Int} {s : ByteArray} {A : Option Addr} {c : Nat} {kids : List GT} (hl : Lies h (.mk k n s A c kids)) : kids.length ≤ c := by cases hl; assumption
theorem Lies.kid {h : Hp} {k n : Int} {s : ByteArray} {A : Option Addr} {c : Nat} {kids : List GT} (hl : Lies h (.mk k n s A c kids)) {t : GT} (ht : t ∈ kids) : Lies h t := by
  cases hl with
  | intro _ _ _ _ _ _ _ _ hk => exact hk t ht
theorem Lies.at {h : Hp} {k n : Int} {s : ByteArray} {A : Option Addr} {c : Nat} {kids : List GT} (hl : Lies h (.mk k n s A c kids)) {i : Nat} {t : GT} (ht : kids[i]? = some t) : Lies h t := hl.kid (List.mem_of_getElem? ht)
theorem Lies.le {h h' : Hp} (hh : h.Le h') : ∀ {t : GT}, Lies h t → Lies h' t := fun {t} => by
  induction t using GT.ind with
  | h k n s A c kids ih =>
    intro hl
    exact .intro k n s A c kids hl.cap (hl.rows.le hh) (fun t ht => ih t ht (hl.kid ht))
/-- Its numbers are numbers, its texts and rows fit in memory. -/
inductive Fits : GT → Prop
  | intro (k n : Int) (s : ByteArray) (A : Option Addr) (c : Nat) (kids : List GT) (hk0 : -9223372036854775808 ≤ k) (hk1 : k ≤ 9223372036854775807) (hn0 : -9223372036854775808 ≤ n) (hn1 : n ≤ 9223372036854775807)
      (hs : s.size ≤ 140737488355328) (hb : kids.length * 56 ≤ 140737488355328) (hkid : ∀ t, t ∈ kids → Fits t) : Fits (.mk k n s A c kids)
theorem Fits.kid {k n : Int} {s : ByteArray} {A : Option Addr} {c : Nat} {kids : List GT} (hl : Fits (.mk k n s A c kids)) {t : GT} (ht : t ∈ kids) : Fits t := by
  cases hl with
  | intro _ _ _ _ _ _ _ _ _ _ _ _ hk => exact hk t ht
theorem Fits.at {k n : Int} {s : ByteArray} {A : Option Addr} {c : Nat} {kids : List GT} (hl : Fits (.mk k n s A c kids)) {i : Nat} {t : GT} (ht : kids[i]? = some t) : Fits t := hl.kid (List.mem_of_getElem? ht)
theorem Fits.room {k n : Int} {s : ByteArray} {A : Option Addr} {c : Nat} {kids : List GT} (hl : Fits (.mk k n s A c kids)) : kids.length * 56 ≤ 140737488355328 := by cases hl; assumption
theorem Fits.nums {k n : Int} {s : ByteArray} {A : Option Addr} {c : Nat} {kids : List GT} (hl : Fits (.mk k n s A c kids)) : (-9223372036854775808 ≤ k ∧ k ≤ 9223372036854775807) ∧ (-9223372036854775808 ≤ n ∧ n ≤ 9223372036854775807) ∧ s.size ≤ 140737488355328 := by
  cases hl; exact ⟨⟨by assumption, by assumption⟩, ⟨by assumption, by assumption⟩, by assumption⟩
/-! how many parts -/
mutual
def size : Tm → Nat | .mk _ _ _ kids => 1 + sizes kids
def sizes : List Tm → Nat | [] => 0 | t :: l => size t + sizes l
end
theorem sizes_map : ∀ l : List Tm, sizes l = (l.map size).sum
  | [] => by simp [sizes]
  | t :: l => by simp [sizes, sizes_map l]
theorem sizes_snoc (l : List Tm) (t : Tm) : sizes (l ++ [t]) = sizes l + size t := by simp [sizes_map]
/-! .. as the machine counts them -/
mutual
def sizeW : GT → Int | .mk _ _ _ _ _ kids => sizesW 1 kids
def sizesW : Int → List GT → Int | a, [] => a | a, t :: l => sizesW (IntKind.i64.wrap (a + sizeW t)) l
end
theorem sizesW_snoc : ∀ (l : List GT) (a : Int) (t : GT), sizesW a (l ++ [t]) = IntKind.i64.wrap (sizesW a l + sizeW t)
  | [], a, t => by simp [sizesW]
  | x :: l, a, t => by
    rw [List.cons_append, sizesW, sizesW]
    exact sizesW_snoc l _ t
theorem take_snoc {α : Type} {l : List α} {i : Nat} {x : α} (h : l[i]? = some x) : l.take (i + 1) = l.take i ++ [x] := by rw [List.take_add_one, h]; rfl
theorem sizesW_succ {l : List GT} {a : Int} {i : Nat} {t : GT} (h : l[i]? = some t) : IntKind.i64.wrap (sizesW a (l.take i) + sizeW t) = sizesW a (l.take (i + 1)) := by rw [take_snoc h, sizesW_snoc]
theorem sizesW_all {k n : Int} {s : ByteArray} {A : Option Addr} {c : Nat} {kids : List GT} : sizesW 1 (kids.take kids.length) = sizeW (.mk k n s A c kids) := by rw [List.take_length, sizeW]
end Go.Proofs.YtamifocfbcmfkaaDoor.TermP

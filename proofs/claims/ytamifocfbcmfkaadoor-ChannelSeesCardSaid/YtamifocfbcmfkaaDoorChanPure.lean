/- Events: the plain law, and how they lie in memory. Conditions: none; plain lemmas. -/
import Derived.Test.YtamifocfbcmfkaaDoorEngRows
set_option linter.unusedVariables false
set_option linter.unusedSimpArgs false
namespace Go.Proofs.YtamifocfbcmfkaaDoor.ChanP
open Go.RowKit Go.Proofs.YtamifocfbcmfkaaDoor.E
structure Ev where
  k : Int
  l : Int
  s : ByteArray
def evC (e : Ev) : List Value := [.int .i64 e.k, .int .i64 e.l, .string e.s]
theorem evC_len : ∀ es : List Ev, ∀ c ∈ es.map evC, c.length = 3 := fun es c hc => by
  obtain ⟨e, _, rfl⟩ := List.mem_map.1 hc
  rfl
def flt (pr : Ev → Bool) (es : List Ev) (i : Nat) : List Ev := (es.take i).filter pr
theorem flt_yes {pr : Ev → Bool} {es : List Ev} {i : Nat} {e : Ev} (h : es[i]? = some e) (hp : pr e = true) : flt pr es (i + 1) = flt pr es i ++ [e] := by
  unfold flt
  rw [List.take_add_one, h, List.filter_append]
  simp [hp]
theorem flt_no {pr : Ev → Bool} {es : List Ev} {i : Nat} {e : Ev} (h : es[i]? = some e) (hp : pr e = false) : flt pr es (i + 1) = flt pr es i := by
  unfold flt
  rw [List.take_add_one, h, List.filter_append]
  simp [hp]
theorem flt_len (pr : Ev → Bool) (es : List Ev) (i : Nat) : (flt pr es i).length ≤ i := by
  unfold flt
  exact Nat.le_trans (List.length_filter_le _ _) (by rw [List.length_take]; omega)
theorem flt_all (pr : Ev → Bool) (es : List Ev) : flt pr es es.length = es.filter pr := by
  unfold flt
  rw [List.take_length]
theorem evs_snoc (es : List Ev) (e : Ev) : ((es ++ [e]).map evC).flatten = (es.map evC).flatten ++ [.int .i64 e.k, .int .i64 e.l, .string e.s] := by
  rw [List.map_append, List.flatten_append]
  simp [evC]
/-! beside -/
def evEq (a b : Ev) : Bool := a.k == b.k && a.l == b.l && a.s.data.toList == b.s.data.toList
def besideN (es fs : List Ev) (i : Nat) : Bool := (List.range i).all fun j => match es[j]?, fs[j]? with | some e, some f => evEq e f | _, _ => false
def besideB (es fs : List Ev) : Bool := besideN es fs (min es.length fs.length)
def sameB (es fs : List Ev) : Bool := es.length == fs.length && besideN es fs es.length
theorem besideN_succ {es fs : List Ev} {i : Nat} {e f : Ev} (he : es[i]? = some e) (hf : fs[i]? = some f) : besideN es fs (i + 1) = (besideN es fs i && evEq e f) := by
  unfold besideN
  rw [List.range_succ, List.all_append]
  simp [he, hf]
theorem besideN_yes {es fs : List Ev} {i : Nat} {e f : Ev} (h : besideN es fs i = true) (he : es[i]? = some e) (hf : fs[i]? = some f) (hc : (!evEq e f) = false) : besideN es fs (i + 1) = true := by
  rw [besideN_succ he hf, h]
  simpa using hc
theorem besideN_yes3 {es fs : List Ev} {i : Nat} {e f : Ev} (h : besideN es fs i = true) (he : es[i]? = some e) (hf : fs[i]? = some f) (h1 : (e.k != f.k) = false) (h2 : (e.l != f.l) = false) (h3 : (!(e.s.data.toList == f.s.data.toList)) = false) : besideN es fs (i + 1) = true := by
  refine besideN_yes h he hf ?_
  unfold evEq
  simp_all
theorem besideN_bad {es fs : List Ev} {i n : Nat} {e f : Ev} (hi : i < n) (he : es[i]? = some e) (hf : fs[i]? = some f) (hc : evEq e f = false) : besideN es fs n = false := by
  unfold besideN
  rw [List.all_eq_false]
  exact ⟨i, List.mem_range.2 hi, by simp [he, hf, hc]⟩
theorem besideN_no {es fs : List Ev} {i n : Nat} {e f : Ev} (hi : i < n) (he : es[i]? = some e) (hf : fs[i]? = some f) (h : (e.k != f.k) = true ∨ (e.l != f.l) = true ∨ (!(e.s.data.toList == f.s.data.toList)) = true) : besideN es fs n = false := by
  refine besideN_bad hi he hf ?_
  unfold evEq
  rcases h with h | h | h <;> simp_all
theorem beside_no {es fs : List Ev} {i k l l2 : Nat} {e f : Ev} (h : besideN es fs i = true) (hi : i < k) (he : es[i]? = some e) (hf : fs[i]? = some f) (hk : k = min l l2) (hl : es.length = l) (hl2 : fs.length = l2) (hc : (!evEq e f) = true) : besideB es fs = false := by
  unfold besideB
  rw [hl, hl2, ← hk]
  exact besideN_bad hi he hf (by simpa using hc)
theorem beside_yes {es fs : List Ev} (h : besideN es fs (min es.length fs.length) = true) : besideB es fs = true := h
def strsN (xs ys : List ByteArray) (i : Nat) : Bool := (List.range i).all fun j => match xs[j]?, ys[j]? with | some e, some f => e.data.toList == f.data.toList | _, _ => false
theorem strsN_yes {xs ys : List ByteArray} {i : Nat} {e f : ByteArray} (h : strsN xs ys i = true) (he : xs[i]? = some e) (hf : ys[i]? = some f) (hc : (!(e.data.toList == f.data.toList)) = false) : strsN xs ys (i + 1) = true := by
  unfold strsN at h ⊢
  rw [List.range_succ, List.all_append, h]
  simp [he, hf]
  simpa using hc
theorem strsN_no {xs ys : List ByteArray} {i n : Nat} {e f : ByteArray} (hi : i < n) (he : xs[i]? = some e) (hf : ys[i]? = some f) (hc : (!(e.data.toList == f.data.toList)) = true) : strsN xs ys n = false := by
  unfold strsN
  rw [List.all_eq_false]
  refine ⟨i, List.mem_range.2 hi, ?_⟩
  simp [he, hf]
  simpa using hc
end Go.Proofs.YtamifocfbcmfkaaDoor.ChanP

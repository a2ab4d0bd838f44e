/- The laws on tokens in plain Lean: two texts one behind the other, blanks and remarks, what tokens are. Conditions: none; plain lemmas. -/
import Derived.Test.YtdbeiaohibgmeaaBackPure
set_option linter.unusedVariables false
set_option linter.unusedSimpArgs false
namespace Go.Proofs.Ytdbeiaohibgmeaa.TokP
open Go.RowKit Go.Proofs.Ytdbeiaohibgmeaa.E Go.Proofs.Ytdbeiaohibgmeaa.ReplP
def scTs : Sc → List Tk
  | .ok ts => ts
  | .bad _ _ _ => []
def scE : Sc → Option (ByteArray × Int)
  | .ok _ => none
  | .bad _ w e => some (w, e)
def scAt : Sc → Nat
  | .ok _ => 0
  | .bad i _ _ => i
theorem sc_ok {r : Sc} (h : scE r = none) : r = .ok (scTs r) := by
  cases r with
  | ok ts => rfl
  | bad i w e => cases h
theorem sc_no {r : Sc} (h : ¬ scE r = none) : scTs r = [] := by
  cases r with
  | ok ts => exact absurd rfl h
  | bad i w e => rfl
theorem ba_cat (a b : ByteArray) : (a ++ b).data.toList = a.data.toList ++ b.data.toList := by simp
theorem sc_lx {l : List UInt8} (hl : l.length ≤ 4096) (h : scE (scanA l) = none) : Lx false l (scTs (scanA l)) := by
  rcases scan_or hl with ⟨ts, h1, h2⟩ | ⟨j, x, _, h2⟩
  · rw [h2]
    exact h1
  · rw [h2] at h
    cases h
theorem sc_lb {l : List UInt8} (hl : l.length ≤ 4096) (h : ¬ scE (scanA l) = none) : ∃ x, scE (scanA l) = some x ∧ Lb l (scAt (scanA l)) x := by
  rcases scan_or hl with ⟨ts, _, h2⟩ | ⟨j, x, h1, h2⟩
  · rw [h2] at h
    exact absurd rfl h
  · exact ⟨x, by rw [h2]; rfl, by rw [h2]; exact h1⟩
theorem sc_lb2 {l : List UInt8} (hl : l.length ≤ 4096) {j : Nat} {x : ByteArray × Int} (h : Lb l j x) : scE (scanA l) = some x ∧ scAt (scanA l) = j := by
  rw [scan_no hl h]
  exact ⟨rfl, rfl⟩
theorem join_len1 {s t : List UInt8} (hs : s.length ≤ 2000) (_ht : t.length ≤ 2000) : (s ++ [10]).length ≤ 4096 := by rw [List.length_append, List.length_cons, List.length_nil]; omega
section
variable {s t : List UInt8} (hs : s.length ≤ 2000) (ht : t.length ≤ 2000)
include hs ht
theorem join_len : (s ++ 10 :: t).length ≤ 4096 := by rw [List.length_append, List.length_cons]; omega
theorem join_ok (h1 : scE (scanA (s ++ [10])) = none) (h2 : scE (scanA t) = none) : scanA (s ++ 10 :: t) = .ok (scTs (scanA (s ++ [10])) ++ scTs (scanA t)) :=
  scan_ok (join_len hs ht) (lx_join s.length s t false _ _ (Nat.le_refl _) (sc_lx (join_len1 hs ht) h1) (sc_lx (by omega) h2))
theorem join_bad1 (h1 : ¬ scE (scanA (s ++ [10])) = none) : scE (scanA (s ++ 10 :: t)) = scE (scanA (s ++ [10])) ∧ scAt (scanA (s ++ 10 :: t)) = scAt (scanA (s ++ [10])) := by
  obtain ⟨x, hx, hb⟩ := sc_lb (join_len1 hs ht) h1
  have h := sc_lb2 (join_len hs ht) (lb_join s.length s t _ x (Nat.le_refl _) hb)
  exact ⟨h.1.trans hx.symm, h.2⟩
theorem join_bad (h : ¬ (scE (scanA (s ++ [10])) = none ∧ scE (scanA t) = none)) : ¬ scE (scanA (s ++ 10 :: t)) = none := by
  by_cases h1 : scE (scanA (s ++ [10])) = none
  · obtain ⟨x, hx, hb⟩ := sc_lb (l := t) (by omega) (fun h2 => h ⟨h1, h2⟩)
    have h := sc_lb2 (join_len hs ht) (lb_join2 s.length s t false _ _ x (Nat.le_refl _) (sc_lx (join_len1 hs ht) h1) hb)
    rw [h.1]
    simp
  · rw [(join_bad1 hs ht h1).1]
    exact h1
end
/-! remarks and blanks -/
theorem skip_note {note : List UInt8} (h : note.all lineB = true) (x : List UInt8) : skipN (37 :: (note ++ 10 :: x)) = note.length + 2 + skipN x := by
  have hr : runB lineB (note ++ 10 :: x) = note.length := run_stop (by rfl) note x h
  rw [skip_cons, if_pos rfl, hr, if_neg (by rw [List.length_append, List.length_cons]; omega)]
  rw [List.drop_append, List.drop_eq_nil_of_le (by omega), List.nil_append, show note.length + 1 - note.length = 1 by omega]
  rfl
theorem skip_note0 {note : List UInt8} (h : note.all lineB = true) : skipN (37 :: note) = (37 :: note).length := by
  rw [skip_cons, if_pos rfl, run_allN note h, if_pos rfl]
  rfl
theorem skip_note1 {note : List UInt8} (h : note.all lineB = true) : skipN (37 :: (note ++ [10])) = (37 :: (note ++ [10])).length := by
  rw [skip_note h, skip_nil]
  simp
theorem scan_none {l : List UInt8} (hl : l.length ≤ 4096) (h : skipN l = l.length) : scanA l = .ok [] := scan_ok hl (.done h)
theorem line_all {note : List UInt8} (h : note.contains 10 = false) : note.all lineB = true := by
  rw [List.all_eq_true]
  intro c hc
  unfold lineB
  have hne : ¬ c = 10 := fun h9 => by
    rw [h9] at hc
    rw [List.contains_eq_mem, decide_eq_false_iff_not] at h
    exact h hc
  have : ¬ (c.toNat : Int) = 10 := fun h9 => hne (UInt8.toNat_inj.1 (by show c.toNat = 10; omega))
  simp [this]
theorem pad_sp {c : UInt8} (h1 : ¬ c = 37) (h2 : blankB c = true) {p : List UInt8} (hp : padB p) : padB (c :: p) := fun x => by
  rw [List.cons_append, skip_cons, if_neg h1, if_pos h2, hp, List.length_cons]
  omega
theorem pad_nil : padB [] := fun x => by simp
theorem pad_note {note p : List UInt8} (h : note.all lineB = true) (hp : padB p) : padB (37 :: (note ++ 10 :: p)) := fun x => by
  rw [List.cons_append, List.append_assoc, List.cons_append, skip_note h, hp]
  simp only [List.length_cons, List.length_append]
  omega
def padsL : List (List UInt8) := [[32], [9, 10], [37, 32, 97, 32, 39, 98, 10], [32, 37, 37, 10, 13]]
theorem pads_all : ∀ p ∈ padsL, padB p ∧ p.length ≤ 7 := by
  intro p hp
  simp only [padsL, List.mem_cons, List.not_mem_nil, or_false] at hp
  rcases hp with rfl | rfl | rfl | rfl
  · exact ⟨pad_sp (by decide) (by decide) pad_nil, by decide⟩
  · exact ⟨pad_sp (by decide) (by decide) (pad_sp (by decide) (by decide) pad_nil), by decide⟩
  · exact ⟨pad_note (note := [32, 97, 32, 39, 98]) (by decide) pad_nil, by decide⟩
  · exact ⟨pad_sp (by decide) (by decide) (pad_note (note := [37]) (by decide) (pad_sp (by decide) (by decide) pad_nil)), by decide⟩
theorem pad_skip {p : List UInt8} (hp : padB p) : skipN p = p.length := by
  have := hp []
  rwa [List.append_nil, skip_nil] at this
theorem blank_len {s p : List UInt8} (hs : s.length ≤ 2000) (_hp : padB p) (hl : p.length ≤ 7) : (p ++ (s ++ 10 :: p)).length ≤ 4096 := by simp only [List.length_append, List.length_cons]; omega
section
variable {s p : List UInt8} (hs : s.length ≤ 2000) (hp : padB p) (hl : p.length ≤ 7)
include hs hp hl
theorem blank_ok (h : scE (scanA (s ++ [10])) = none) : scanA (p ++ (s ++ 10 :: p)) = .ok (scTs (scanA (s ++ [10]))) := by
  have h1 := sc_lx (l := s ++ [10]) (by simp only [List.length_append, List.length_cons, List.length_nil]; omega) h
  have h2 := lx_join s.length s p false _ _ (Nat.le_refl _) h1 (lx_pad0 hp false)
  rw [List.append_nil] at h2
  exact scan_ok (blank_len hs hp hl) (lx_pad hp h2)
theorem blank_bad (h : ¬ scE (scanA (s ++ [10])) = none) : scE (scanA (p ++ (s ++ 10 :: p))) = scE (scanA (s ++ [10])) ∧ scAt (scanA (p ++ (s ++ 10 :: p))) = scAt (scanA (s ++ [10])) + p.length := by
  obtain ⟨x, hx, hb⟩ := sc_lb (l := s ++ [10]) (by simp only [List.length_append, List.length_cons, List.length_nil]; omega) h
  have h2 := sc_lb2 (blank_len hs hp hl) (lb_pad hp (lb_join s.length s p _ x (Nat.le_refl _) hb))
  exact ⟨h2.1.trans hx.symm, by rw [h2.2]; omega⟩
end
/-! what tokens are -/
theorem scan_fair {l : List UInt8} (h : scE (scanA l) = none) : (∀ t ∈ scTs (scanA l), Fair t) ∧ sumT (scTs (scanA l)) ≤ l.length ∧ (scTs (scanA l)).length ≤ l.length ∧ (∀ t, (scTs (scanA l))[0]? = some t → t.tight = false) ∧ l.length ≤ 4096 := by
  have hl : l.length ≤ 4096 := by
    apply Decidable.byContradiction
    intro h9
    unfold scanA at h
    rw [if_pos (by omega)] at h
    cases h
  have h1 := lx_fair (sc_lx hl h)
  exact ⟨h1.1, h1.2.1, h1.2.2.1, h1.2.2.2 rfl, hl⟩
theorem sum_succ {ts : List Tk} {i : Nat} {t : Tk} (h : ts[i]? = some t) : sumT (ts.take (i + 1)) = sumT (ts.take i) + (if t.a.quo = true then 0 else t.a.str.size) := by
  unfold sumT
  rw [List.take_add_one, h, List.map_append, List.sum_append]
  simp
theorem sum_le (ts : List Tk) (i : Nat) : sumT (ts.take i) ≤ sumT ts := by
  have h1 : sumT ts = sumT (ts.take i) + sumT (ts.drop i) := by
    conv => lhs; rw [← List.take_append_drop i ts]
    unfold sumT
    rw [List.map_append, List.sum_append]
  omega
def mayB (l : List UInt8) : Bool := l.all okB && decide ((l.length : Int) ≤ 64)
end Go.Proofs.Ytdbeiaohibgmeaa.TokP

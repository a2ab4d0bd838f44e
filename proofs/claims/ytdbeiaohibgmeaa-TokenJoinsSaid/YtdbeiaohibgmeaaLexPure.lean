/- Texts in tokens, end by end: what a token is does not depend on what stands behind the next line's end. Conditions: none; plain lemmas. -/
import Derived.Test.YtdbeiaohibgmeaaScanPure
set_option linter.unusedVariables false
set_option linter.unusedSimpArgs false
namespace Go.Proofs.Ytdbeiaohibgmeaa.TokP
open Go.RowKit Go.Proofs.Ytdbeiaohibgmeaa.E Go.Proofs.Ytdbeiaohibgmeaa.ReplP
def one1 (r : List UInt8) : Ans := oneC (firstC r) r
/-- a text is these tokens; b: something stands ahead of it -/
inductive Lx : Bool → List UInt8 → List Tk → Prop
  | done {b : Bool} {l : List UInt8} (h : skipN l = l.length) : Lx b l []
  | tok {b : Bool} {l r : List UInt8} {a : Ans} {ts : List Tk} (h : ¬ skipN l = l.length) (hr : r = l.drop (skipN l)) (ha : a = one1 r) (he : errA a = none) (k : Lx true (r.drop a.used) ts) : Lx b l (⟨a, decide (skipN l = 0) && b⟩ :: ts)
/-- a text may not be, at a place -/
inductive Lb : List UInt8 → Nat → ByteArray × Int → Prop
  | bad {l r : List UInt8} {x : ByteArray × Int} (h : ¬ skipN l = l.length) (hr : r = l.drop (skipN l)) (he : errA (one1 r) = some x) : Lb l (skipN l) x
  | tok {l r : List UInt8} {a : Ans} {i : Nat} {x : ByteArray × Int} (h : ¬ skipN l = l.length) (hr : r = l.drop (skipN l)) (ha : a = one1 r) (he : errA a = none) (k : Lb (r.drop a.used) i x) : Lb l (skipN l + a.used + i) x
theorem skip_lt {l : List UInt8} (h : ¬ skipN l = l.length) : skipN l < l.length := by
  have := skip_le l.length l (Nat.le_refl _)
  omega
theorem one1_used {r : List UInt8} (hr : 1 ≤ r.length) (he : errA (one1 r) = none) : 1 ≤ (one1 r).used ∧ (one1 r).used ≤ r.length := by
  cases r with
  | nil => simp at hr
  | cons c t => exact one_used (err_none he)
theorem lx_scan {l : List UInt8} : ∀ (k i : Nat) (acc : List Tk), i ≤ l.length → l.length + 1 ≤ i + k →
    (∃ ts, Lx (decide (0 < acc.length)) (l.drop i) ts ∧ scanF l k i acc = .ok (acc ++ ts)) ∨ (∃ j x, Lb (l.drop i) j x ∧ scanF l k i acc = .bad (i + j) x.1 x.2)
  | 0, i, acc, hi, hk => by omega
  | k + 1, i, acc, hi, hk => by
    by_cases h : i + skipN (l.drop i) = l.length
    · exact .inl ⟨[], .done (by rw [List.length_drop]; omega), by rw [scan_done h, List.append_nil]⟩
    · have hne : ¬ skipN (l.drop i) = (l.drop i).length := by rw [List.length_drop]; omega
      have hdd : l.drop (i + skipN (l.drop i)) = (l.drop i).drop (skipN (l.drop i)) := by rw [List.drop_drop]
      cases he : errA (oneC (firstC (l.drop (i + skipN (l.drop i)))) (l.drop (i + skipN (l.drop i)))) with
      | some x =>
        refine .inr ⟨_, x, .bad hne rfl (by rw [← hdd]; exact he), ?_⟩
        rw [scan_bad h he]
      | none =>
        have hu := scan_used hi h he
        have e1 : one1 ((l.drop i).drop (skipN (l.drop i))) = oneC (firstC (l.drop (i + skipN (l.drop i)))) (l.drop (i + skipN (l.drop i))) := by rw [← hdd]; rfl
        have hd2 : ∀ u : Nat, l.drop (i + skipN (l.drop i) + u) = ((l.drop i).drop (skipN (l.drop i))).drop u := fun u => by rw [List.drop_drop, List.drop_drop]; congr 1; omega
        rcases lx_scan k _ (acc ++ [⟨oneC (firstC (l.drop (i + skipN (l.drop i)))) (l.drop (i + skipN (l.drop i))), decide (skipN (l.drop i) = 0) && decide (0 < acc.length)⟩]) hu.2 (by omega) with ⟨ts, h1, h2⟩ | ⟨j, x, h1, h2⟩
        · refine .inl ⟨_ :: ts, .tok hne rfl e1.symm he ?_, ?_⟩
          · rw [hd2] at h1
            have hb : decide (0 < (acc ++ [(⟨oneC (firstC (l.drop (i + skipN (l.drop i)))) (l.drop (i + skipN (l.drop i))), decide (skipN (l.drop i) = 0) && decide (0 < acc.length)⟩ : Tk)]).length) = true := by simp
            rw [hb] at h1
            exact h1
          · rw [scan_more h he, h2, List.append_assoc]
            rfl
        · refine .inr ⟨_, x, .tok hne rfl e1.symm he (by rw [hd2] at h1; exact h1), ?_⟩
          rw [scan_more h he, h2]
          congr 1
          omega
theorem lx_det {b : Bool} {l : List UInt8} {ts : List Tk} (h : Lx b l ts) : ∀ {ts' : List Tk}, Lx b l ts' → ts = ts' := by
  induction h with
  | done h =>
    intro ts' h'
    cases h' with
    | done => rfl
    | tok h2 => exact absurd h h2
  | tok h hr ha he k ih =>
    intro ts' h'
    cases h' with
    | done h2 => exact absurd h2 h
    | tok h2 hr2 ha2 he2 k2 =>
      subst hr hr2 ha ha2
      rw [ih k2]
theorem lx_lb {b : Bool} {l : List UInt8} {ts : List Tk} (h : Lx b l ts) : ∀ {j : Nat} {x : ByteArray × Int}, ¬ Lb l j x := by
  induction h with
  | done h =>
    intro j x h'
    cases h' with
    | bad h2 => exact h2 h
    | tok h2 => exact h2 h
  | tok h hr ha he k ih =>
    intro j x h'
    cases h' with
    | bad h2 hr2 he2 =>
      subst hr hr2 ha
      rw [he] at he2
      cases he2
    | tok h2 hr2 ha2 he2 k2 =>
      subst hr hr2 ha ha2
      exact ih k2
theorem lb_det {l : List UInt8} {i : Nat} {x : ByteArray × Int} (h : Lb l i x) : ∀ {j : Nat} {y : ByteArray × Int}, Lb l j y → i = j ∧ x = y := by
  induction h with
  | bad h hr he =>
    intro j y h'
    cases h' with
    | bad h2 hr2 he2 =>
      subst hr hr2
      rw [he] at he2
      exact ⟨rfl, Option.some.inj he2⟩
    | tok h2 hr2 ha2 he2 k2 =>
      subst hr hr2 ha2
      rw [he] at he2
      cases he2
  | tok h hr ha he k ih =>
    intro j y h'
    cases h' with
    | bad h2 hr2 he2 =>
      subst hr hr2 ha
      rw [he] at he2
      cases he2
    | tok h2 hr2 ha2 he2 k2 =>
      subst hr hr2 ha ha2
      obtain ⟨rfl, rfl⟩ := ih k2
      exact ⟨rfl, rfl⟩
theorem scan_or {l : List UInt8} (hl : l.length ≤ 4096) : (∃ ts, Lx false l ts ∧ scanA l = .ok ts) ∨ (∃ j x, Lb l j x ∧ scanA l = .bad j x.1 x.2) := by
  have h := lx_scan (l := l) (l.length + 1) 0 [] (Nat.zero_le _) (by omega)
  unfold scanA
  rw [if_neg (by omega)]
  rcases h with ⟨ts, h1, h2⟩ | ⟨j, x, h1, h2⟩
  · exact .inl ⟨ts, h1, h2⟩
  · exact .inr ⟨j, x, h1, by rw [h2, Nat.zero_add]⟩
theorem scan_ok {l : List UInt8} (hl : l.length ≤ 4096) {ts : List Tk} (h : Lx false l ts) : scanA l = .ok ts := by
  rcases scan_or hl with ⟨ts', h1, h2⟩ | ⟨j, x, h1, _⟩
  · rw [h2, lx_det h h1]
  · exact absurd h1 (lx_lb h)
theorem scan_no {l : List UInt8} (hl : l.length ≤ 4096) {j : Nat} {x : ByteArray × Int} (h : Lb l j x) : scanA l = .bad j x.1 x.2 := by
  rcases scan_or hl with ⟨ts', h1, _⟩ | ⟨j', x', h1, h2⟩
  · exact absurd h (lx_lb h1)
  · obtain ⟨rfl, rfl⟩ := lb_det h h1
    exact h2
/-! what stands behind a line's end plays no part -/
theorem run_app {p : UInt8 → Bool} (h : p 10 = false) : ∀ (u t : List UInt8), runB p (u ++ 10 :: t) = runB p u
  | [], t => by rw [List.nil_append, runB_no h, runB_nil]
  | c :: u, t => by
    rw [List.cons_append]
    cases hc : p c with
    | true => rw [runB_yes hc, runB_yes hc, run_app h u t]
    | false => rw [runB_no hc, runB_no hc]
theorem run_same {p : UInt8 → Bool} (h : p 10 = false) (u t : List UInt8) : runB p (u ++ 10 :: t) = runB p (u ++ [10]) := by rw [run_app h, run_app h]
theorem skip_join : ∀ (n : Nat) (u : List UInt8), u.length ≤ n → (skipN (u ++ [10]) = u.length + 1 ∧ ∀ t, skipN (u ++ 10 :: t) = u.length + 1 + skipN t) ∨ (skipN (u ++ [10]) < u.length ∧ ∀ t, skipN (u ++ 10 :: t) = skipN (u ++ [10]))
  | _, [], _ => by
    have e : ∀ t, skipN (10 :: t) = 1 + skipN t := fun t => by rw [skip_cons]; rfl
    refine .inl ⟨?_, fun t => ?_⟩
    · rw [List.nil_append, e, skip_nil]; rfl
    · rw [List.nil_append, e]; simp
  | 0, _ :: _, h => by simp at h
  | n + 1, c :: u, h => by
    have hu : u.length ≤ n := by simpa using h
    have e : ∀ t, skipN ((c :: u) ++ 10 :: t) = if c = 37 then (if runB lineB u = (u ++ 10 :: t).length then (u ++ 10 :: t).length + 1 else runB lineB u + 2 + skipN ((u ++ 10 :: t).drop (runB lineB u + 1))) else if blankB c = true then 1 + skipN (u ++ 10 :: t) else 0 := fun t => by
      rw [List.cons_append, skip_cons, run_app (by rfl)]
    have hm := runB_le lineB u
    by_cases hc : c = 37
    · have hne : ∀ t : List UInt8, ¬ runB lineB u = (u ++ 10 :: t).length := fun t => by rw [List.length_append, List.length_cons]; omega
      have e2 : ∀ t, skipN ((c :: u) ++ 10 :: t) = runB lineB u + 2 + skipN ((u ++ 10 :: t).drop (runB lineB u + 1)) := fun t => by rw [e, if_pos hc, if_neg (hne t)]
      by_cases hl : runB lineB u = u.length
      · have ed : ∀ t : List UInt8, (u ++ 10 :: t).drop (runB lineB u + 1) = t := fun t => by
          rw [hl, List.drop_append, List.drop_eq_nil_of_le (by omega), List.nil_append]
          have : u.length + 1 - u.length = 1 := by omega
          rw [this]; rfl
        refine .inl ⟨?_, fun t => ?_⟩
        · rw [e2, ed, skip_nil, List.length_cons]; omega
        · rw [e2, ed, List.length_cons]; omega
      · have ed : ∀ t : List UInt8, (u ++ 10 :: t).drop (runB lineB u + 1) = u.drop (runB lineB u + 1) ++ 10 :: t := fun t => List.drop_append_of_le_length (by omega)
        have hl2 : (u.drop (runB lineB u + 1)).length = u.length - (runB lineB u + 1) := List.length_drop
        rcases skip_join n (u.drop (runB lineB u + 1)) (by omega) with ⟨h1, h2⟩ | ⟨h1, h2⟩
        · refine .inl ⟨?_, fun t => ?_⟩
          · rw [e2, ed, h1, List.length_cons]; omega
          · rw [e2, ed, h2, List.length_cons]; omega
        · refine .inr ⟨?_, fun t => ?_⟩
          · rw [e2, ed, List.length_cons]; omega
          · rw [e2, e2, ed, ed, h2]
    · cases hb : blankB c with
      | true =>
        have e2 : ∀ t, skipN ((c :: u) ++ 10 :: t) = 1 + skipN (u ++ 10 :: t) := fun t => by rw [e, if_neg hc, if_pos hb]
        rcases skip_join n u hu with ⟨h1, h2⟩ | ⟨h1, h2⟩
        · refine .inl ⟨?_, fun t => ?_⟩
          · rw [e2, h1, List.length_cons]; omega
          · rw [e2, h2, List.length_cons]; omega
        · refine .inr ⟨?_, fun t => ?_⟩
          · rw [e2, List.length_cons]; omega
          · rw [e2, e2, h2]
      | false =>
        have e2 : ∀ t, skipN ((c :: u) ++ 10 :: t) = 0 := fun t => by rw [e, if_neg hc, hb]; rfl
        exact .inr ⟨by rw [e2]; simp, fun t => by rw [e2, e2]⟩
theorem get_join (u t : List UInt8) {j : Nat} (h : j ≤ u.length) : (u ++ 10 :: t)[j]? = (u ++ [10])[j]? := by
  rcases Nat.lt_or_eq_of_le h with h1 | h1
  · rw [List.getElem?_append_left h1, List.getElem?_append_left h1]
  · subst h1
    rw [List.getElem?_append_right (Nat.le_refl _), List.getElem?_append_right (Nat.le_refl _), Nat.sub_self]
    rfl
theorem quo_join : ∀ (n : Nat) (u t out : List UInt8) (k : Nat), u.length ≤ n → quoL (u ++ 10 :: t) out k = quoL (u ++ [10]) out k ∧ ((quoL (u ++ [10]) out k).err = none → (quoL (u ++ [10]) out k).used ≤ k + u.length)
  | _, [], t, out, k, _ => by
    have e : ∀ t, quoL (10 :: t) out k = .bad q2 4 := fun t => by
      cases t with
      | nil => rw [quoL]; rfl
      | cons d t => rw [quoL]; rfl
    rw [List.nil_append, List.nil_append, e, e]
    exact ⟨rfl, fun h => by cases h⟩
  | 0, _ :: _, _, _, _, h => by simp at h
  | n + 1, [c], t, out, k, h => by
    have e : ∀ t, quoL ([c] ++ 10 :: t) out k = if c = 39 then .tok 1 ⟨out.toArray⟩ 0 true (k + 1) else if c = 92 then .bad q1 4 else if (c.toNat : Int) < 32 then .bad q2 4 else quoL (10 :: t) (out ++ [c]) (k + 1) := fun t => by
      rw [List.cons_append, List.nil_append, quoL]
      rfl
    have ih := quo_join n [] t (out ++ [c]) (k + 1) (Nat.zero_le _)
    rw [List.nil_append, List.nil_append] at ih
    rw [e, e, ih.1]
    refine ⟨rfl, ?_⟩
    split
    · intro _
      show k + 1 ≤ _
      simp
    · split
      · intro h; cases h
      · split
        · intro h; cases h
        · intro h
          have := ih.2 h
          simp only [List.length_nil, List.length_cons] at this ⊢
          omega
  | n + 1, c :: d :: u, t, out, k, h => by
    have hl : u.length + 1 ≤ n := by simpa using h
    have e : ∀ t, quoL ((c :: d :: u) ++ 10 :: t) out k = if c = 39 then (if d = 39 then quoL (u ++ 10 :: t) (out ++ [39]) (k + 2) else .tok 1 ⟨out.toArray⟩ 0 true (k + 1))
      else if c = 92 then (match esc d with | some x => quoL (u ++ 10 :: t) (out ++ [x]) (k + 2) | none => .bad q1 4)
      else if (c.toNat : Int) < 32 then .bad q2 4 else quoL ((d :: u) ++ 10 :: t) (out ++ [c]) (k + 1) := fun t => by
      rw [List.cons_append, List.cons_append, quoL]
      rfl
    have i1 := quo_join n u t (out ++ [39]) (k + 2) (by omega)
    have i2 := fun x => quo_join n u t (out ++ [x]) (k + 2) (by omega)
    have i3 := quo_join n (d :: u) t (out ++ [c]) (k + 1) (by simpa using hl)
    rw [e, e, i1.1, i3.1]
    simp only [List.length_cons] at i3 ⊢
    split
    · split
      · exact ⟨rfl, fun h => by have := i1.2 h; omega⟩
      · exact ⟨rfl, fun _ => by show k + 1 ≤ _; omega⟩
    · split
      · cases hx : esc d with
        | none => exact ⟨rfl, fun h => by cases h⟩
        | some x =>
          refine ⟨(i2 x).1, fun h => ?_⟩
          have := (i2 x).2 h
          show (quoL (u ++ [10]) (out ++ [x]) (k + 2)).used ≤ _
          omega
      · split
        · exact ⟨rfl, fun h => by cases h⟩
        · exact ⟨rfl, fun h => by have := i3.2 h; omega⟩
theorem first_join (k : Int) (u t : List UInt8) {n : Nat} (h : n ≤ u.length) : firstT k (u ++ 10 :: t) n = firstT k (u ++ [10]) n := by
  unfold firstT
  rw [List.take_append_of_le_length h, List.take_append_of_le_length h]
theorem dot_join (u t : List UInt8) {n : Nat} (h : n ≤ u.length) : dottedB (u ++ 10 :: t) n = dottedB (u ++ [10]) n := by
  unfold dottedB
  rw [get_join u t h]
  rcases Nat.lt_or_eq_of_le h with h1 | h1
  · rw [get_join u t h1]
    congr 2
    refine decide_eq_decide.2 ?_
    simp only [List.length_append, List.length_cons, List.length_nil]
    omega
  · subst h1
    have : (u ++ [10])[u.length]? = some 10 := by rw [List.getElem?_append_right (Nat.le_refl _), Nat.sub_self]; rfl
    rw [this]
    simp [dotB]
theorem num_join (u t : List UInt8) : numA (u ++ 10 :: t) = numA (u ++ [10]) ∧ ((numA (u ++ [10])).err = none → (numA (u ++ [10])).used ≤ u.length) := by
  have h1 : ∀ t, runB digitB (u ++ 10 :: t) = runB digitB u := run_app (by rfl) u
  have hl := runB_le digitB u
  have h2 : ∀ t, figs (u ++ 10 :: t) = u.take (runB digitB u) := fun t => by
    unfold figs
    rw [h1, List.take_append_of_le_length hl]
  unfold numA
  rw [h1, h1, h2, h2, dot_join u t hl]
  refine ⟨rfl, ?_⟩
  split
  · intro h; cases h
  · split
    · intro h; cases h
    · intro _; exact hl
theorem ends_join (u t : List UInt8) (hu : 1 ≤ u.length) : endsB (u ++ 10 :: t) = endsB (u ++ [10]) := by
  unfold endsB
  rw [get_join u t hu]
  cases u with
  | nil => simp at hu
  | cons c u =>
    have e1 : ∀ t : List UInt8, (((((c :: u) ++ 10 :: t).length : Nat) : Int) == 1) = false := fun t => by
      rw [beq_eq_false_iff_ne]
      simp only [List.length_append, List.length_cons]
      omega
    rw [e1, e1]
    rfl
theorem one_join (c : UInt8) (u t : List UInt8) : one1 ((c :: u) ++ 10 :: t) = one1 ((c :: u) ++ [10]) ∧ (errA (one1 ((c :: u) ++ [10])) = none → (one1 ((c :: u) ++ [10])).used ≤ (c :: u).length) := by
  have r1 := run_same (p := letterB) (by rfl) (c :: u) t
  have r2 := run_same (p := signB) (by rfl) (c :: u) t
  have l1 : runB letterB ((c :: u) ++ [10]) ≤ (c :: u).length := by rw [run_app (by rfl)]; exact runB_le _ _
  have l2 : runB signB ((c :: u) ++ [10]) ≤ (c :: u).length := by rw [run_app (by rfl)]; exact runB_le _ _
  have l3 : 1 ≤ (c :: u).length := by simp
  have nj := num_join (c :: u) t
  have ej := ends_join (c :: u) t l3
  have qj : quoA ((c :: u) ++ 10 :: t) = quoA ((c :: u) ++ [10]) ∧ ((quoA ((c :: u) ++ [10])).err = none → (quoA ((c :: u) ++ [10])).used ≤ (c :: u).length) := by
    have := quo_join u.length u t [] 1 (Nat.le_refl _)
    refine ⟨this.1, fun h => ?_⟩
    have h2 := this.2 h
    rw [List.length_cons, Nat.add_comm]
    exact h2
  refine ⟨?_, fun he => ?_⟩
  · show oneC c _ = oneC c _
    unfold oneC
    rw [r1, r2, first_join 1 _ t l1, first_join 2 _ t l1, nj.1, qj.1, first_join 4 _ t l3, first_join 1 _ t l3, first_join 5 _ t l3, first_join 1 _ t l2, ej]
  · have he := err_none he
    revert he
    show (oneC c _).err = none → (oneC c _).used ≤ _
    unfold oneC
    split
    · intro _; exact l1
    split
    · intro _; exact l1
    split
    · exact nj.2
    split
    · exact qj.2
    split
    · intro _; exact l3
    split
    · intro _; exact l3
    split
    · intro _; exact l3
    split
    · intro _; exact l2
    · intro h; cases h
/-- a text up to a line's end: what remains behind a token is again one -/
theorem cut_at {u : List UInt8} (h : skipN (u ++ [10]) < u.length) : ∃ c v, u.drop (skipN (u ++ [10])) = c :: v ∧ ∀ t, (u ++ 10 :: t).drop (skipN (u ++ [10])) = (c :: v) ++ 10 :: t := by
  cases hd : u.drop (skipN (u ++ [10])) with
  | nil =>
    have := List.drop_eq_nil_iff.1 hd
    omega
  | cons c v => exact ⟨c, v, rfl, fun t => by rw [List.drop_append_of_le_length (Nat.le_of_lt h), hd]⟩
theorem lx_join : ∀ (n : Nat) (u t : List UInt8) (b : Bool) (ts ts' : List Tk), u.length ≤ n → Lx b (u ++ [10]) ts → Lx false t ts' → Lx b (u ++ 10 :: t) (ts ++ ts')
  | n, u, t, b, ts, ts', hn, h1, h2 => by
    have hlen : ∀ t : List UInt8, (u ++ 10 :: t).length = u.length + 1 + t.length := fun t => by rw [List.length_append, List.length_cons]; omega
    rcases skip_join u.length u (Nat.le_refl _) with ⟨e1, e2⟩ | ⟨e1, e2⟩
    · cases h1 with
      | tok h => exact absurd (by rw [e1, hlen]; rfl) h
      | done h =>
        rw [List.nil_append]
        cases h2 with
        | done h3 => exact .done (by rw [e2, hlen, h3])
        | tok h3 hr ha he k =>
          have e4 : (u ++ 10 :: t).drop (skipN (u ++ 10 :: t)) = t.drop (skipN t) := by
            rw [e2, List.drop_append, List.drop_eq_nil_of_le (by omega), List.nil_append]
            have : u.length + 1 + skipN t - u.length = skipN t + 1 := by omega
            rw [this]
            rfl
          have h5 : ¬ skipN (u ++ 10 :: t) = (u ++ 10 :: t).length := by rw [e2, hlen]; omega
          have e6 : (decide (skipN t = 0) && false) = (decide (skipN (u ++ 10 :: t) = 0) && b) := by
            rw [e2, Bool.and_false, decide_eq_false (by omega), Bool.false_and]
          rw [e6]
          exact .tok h5 (by rw [e4]; exact hr) ha he k
    · obtain ⟨c, v, hv, hcut⟩ := cut_at e1
      have hlv : (c :: v).length = u.length - skipN (u ++ [10]) := by rw [← hv, List.length_drop]
      cases h1 with
      | done h => rw [hlen] at h; simp only [List.length_nil] at h; omega
      | @tok _ _ r a ts0 h hr ha he k =>
        rw [hcut []] at hr
        have oj := one_join c v t
        subst hr
        have hu : a.used ≤ (c :: v).length := by rw [ha] at he ⊢; exact oj.2 he
        have hu1 : 1 ≤ a.used := by rw [ha] at he ⊢; exact (one1_used (by simp) he).1
        have hd : ∀ t : List UInt8, ((c :: v) ++ 10 :: t).drop a.used = (c :: v).drop a.used ++ 10 :: t := fun t => List.drop_append_of_le_length hu
        rw [hd] at k
        have hlt : ((c :: v).drop a.used).length < u.length := by rw [List.length_drop]; omega
        match n, hn with
        | 0, hn => omega
        | n + 1, hn =>
          have ih := lx_join n ((c :: v).drop a.used) t true ts0 ts' (by omega) k h2
          rw [← hd] at ih
          have e6 : decide (skipN (u ++ [10]) = 0) = decide (skipN (u ++ 10 :: t) = 0) := by rw [e2 t]
          rw [List.cons_append, e6]
          refine .tok (by rw [e2, hlen]; omega) rfl ?_ he (by rw [e2, hcut t]; exact ih)
          rw [e2, hcut t, oj.1, ha]
theorem lb_join : ∀ (n : Nat) (u t : List UInt8) (j : Nat) (x : ByteArray × Int), u.length ≤ n → Lb (u ++ [10]) j x → Lb (u ++ 10 :: t) j x
  | n, u, t, j, x, hn, h1 => by
    have hlen : ∀ t : List UInt8, (u ++ 10 :: t).length = u.length + 1 + t.length := fun t => by rw [List.length_append, List.length_cons]; omega
    rcases skip_join u.length u (Nat.le_refl _) with ⟨e1, e2⟩ | ⟨e1, e2⟩
    · have : skipN (u ++ [10]) = (u ++ [10]).length := by rw [e1, hlen]; rfl
      cases h1 with
      | bad h => exact absurd this h
      | tok h => exact absurd this h
    · obtain ⟨c, v, hv, hcut⟩ := cut_at e1
      have hlv : (c :: v).length = u.length - skipN (u ++ [10]) := by rw [← hv, List.length_drop]
      have oj := one_join c v t
      have hne : ¬ skipN (u ++ 10 :: t) = (u ++ 10 :: t).length := by rw [e2, hlen]; omega
      cases h1 with
      | bad h hr he =>
        rw [hcut []] at hr
        subst hr
        rw [← e2 t]
        exact .bad hne rfl (by rw [e2, hcut t, oj.1]; exact he)
      | @tok _ r a j0 _ h hr ha he k =>
        rw [hcut []] at hr
        subst hr
        have hu : a.used ≤ (c :: v).length := by rw [ha] at he ⊢; exact oj.2 he
        have hu1 : 1 ≤ a.used := by rw [ha] at he ⊢; exact (one1_used (by simp) he).1
        have hd : ∀ t : List UInt8, ((c :: v) ++ 10 :: t).drop a.used = (c :: v).drop a.used ++ 10 :: t := fun t => List.drop_append_of_le_length hu
        rw [hd] at k
        have hlt : ((c :: v).drop a.used).length < u.length := by rw [List.length_drop]; omega
        match n, hn with
        | 0, hn => omega
        | n + 1, hn =>
          have ih := lb_join n ((c :: v).drop a.used) t j0 x (by omega) k
          rw [← hd] at ih
          rw [← e2 t]
          refine .tok hne rfl ?_ he (by rw [e2, hcut t]; exact ih)
          rw [e2, hcut t, oj.1, ha]
theorem lb_join2 : ∀ (n : Nat) (u t : List UInt8) (b : Bool) (ts : List Tk) (j : Nat) (x : ByteArray × Int), u.length ≤ n → Lx b (u ++ [10]) ts → Lb t j x → Lb (u ++ 10 :: t) (u.length + 1 + j) x
  | n, u, t, b, ts, j, x, hn, h1, h2 => by
    have hlen : ∀ t : List UInt8, (u ++ 10 :: t).length = u.length + 1 + t.length := fun t => by rw [List.length_append, List.length_cons]; omega
    rcases skip_join u.length u (Nat.le_refl _) with ⟨e1, e2⟩ | ⟨e1, e2⟩
    · have e4 : (u ++ 10 :: t).drop (skipN (u ++ 10 :: t)) = t.drop (skipN t) := by
        rw [e2, List.drop_append, List.drop_eq_nil_of_le (by omega), List.nil_append]
        have : u.length + 1 + skipN t - u.length = skipN t + 1 := by omega
        rw [this]
        rfl
      cases h2 with
      | bad h hr he =>
        rw [← e2 t]
        exact .bad (by rw [e2, hlen]; omega) (e4.trans hr.symm).symm he
      | @tok _ r a j0 _ h hr ha he k =>
        have : u.length + 1 + (skipN t + a.used + j0) = skipN (u ++ 10 :: t) + a.used + j0 := by rw [e2]; omega
        rw [this]
        exact .tok (by rw [e2, hlen]; omega) (e4.trans hr.symm).symm ha he k
    · obtain ⟨c, v, hv, hcut⟩ := cut_at e1
      have hlv : (c :: v).length = u.length - skipN (u ++ [10]) := by rw [← hv, List.length_drop]
      cases h1 with
      | done h => rw [hlen] at h; simp only [List.length_nil] at h; omega
      | @tok _ _ r a ts0 h hr ha he k =>
        rw [hcut []] at hr
        have oj := one_join c v t
        subst hr
        have hu : a.used ≤ (c :: v).length := by rw [ha] at he ⊢; exact oj.2 he
        have hu1 : 1 ≤ a.used := by rw [ha] at he ⊢; exact (one1_used (by simp) he).1
        have hd : ∀ t : List UInt8, ((c :: v) ++ 10 :: t).drop a.used = (c :: v).drop a.used ++ 10 :: t := fun t => List.drop_append_of_le_length hu
        rw [hd] at k
        have hlt : ((c :: v).drop a.used).length = u.length - skipN (u ++ [10]) - a.used := by rw [List.length_drop, hlv]
        match n, hn with
        | 0, hn => omega
        | n + 1, hn =>
          have ih := lb_join2 n ((c :: v).drop a.used) t true ts0 j x (by omega) k h2
          rw [← hd] at ih
          have e7 : u.length + 1 + j = skipN (u ++ 10 :: t) + a.used + (((c :: v).drop a.used).length + 1 + j) := by rw [e2, hlt]; omega
          rw [e7]
          refine .tok (by rw [e2, hlen]; omega) rfl ?_ he (by rw [e2, hcut t]; exact ih)
          rw [e2, hcut t, oj.1, ha]
/-! blanks ahead -/
def padB (p : List UInt8) : Prop := ∀ x, skipN (p ++ x) = p.length + skipN x
section
variable {p : List UInt8} (hp : padB p)
include hp
theorem pad_drop (x : List UInt8) : (p ++ x).drop (skipN (p ++ x)) = x.drop (skipN x) := by
  rw [hp, List.drop_append, List.drop_eq_nil_of_le (by omega), List.nil_append]
  congr 1
  omega
theorem pad_ne {x : List UInt8} (h : ¬ skipN x = x.length) : ¬ skipN (p ++ x) = (p ++ x).length := by
  rw [hp, List.length_append]
  omega
theorem lx_pad {x : List UInt8} {ts : List Tk} (h : Lx false x ts) : Lx false (p ++ x) ts := by
  cases h with
  | done h => exact .done (by rw [hp, h, List.length_append])
  | tok h hr ha he k =>
    have e : (decide (skipN x = 0) && false) = (decide (skipN (p ++ x) = 0) && false) := by rw [Bool.and_false, Bool.and_false]
    rw [e]
    exact .tok (pad_ne hp h) (by rw [pad_drop hp]; exact hr) ha he k
theorem lb_pad {x : List UInt8} {j : Nat} {y : ByteArray × Int} (h : Lb x j y) : Lb (p ++ x) (p.length + j) y := by
  cases h with
  | bad h hr he =>
    rw [← hp]
    exact .bad (pad_ne hp h) (by rw [pad_drop hp]; exact hr) he
  | @tok _ r a j0 _ h hr ha he k =>
    have : p.length + (skipN x + a.used + j0) = skipN (p ++ x) + a.used + j0 := by rw [hp]; omega
    rw [this]
    exact .tok (pad_ne hp h) (by rw [pad_drop hp]; exact hr) ha he k
end
theorem lx_pad0 {p : List UInt8} (hp : padB p) (b : Bool) : Lx b p [] := .done (by have := hp []; rw [List.append_nil, skip_nil] at this; exact this)
/-! what tokens are -/
structure Fair (t : Tk) : Prop where
  kind : 1 ≤ t.a.kind ∧ t.a.kind ≤ 5
  num : ¬ t.a.kind = 3 → t.a.num = 0
  str : t.a.kind = 3 → t.a.str = ⟨#[]⟩
  quo : t.a.quo = true → t.a.kind = 1
  size : t.a.str.size ≤ 64
  used : t.a.quo = false → t.a.str.size ≤ t.a.used
theorem err_size {a : Ans} (h : errA a = none) : a.str.size ≤ 64 := by
  unfold errA at h
  split at h
  · cases h
  · rename_i h2
    have h3 : ¬ 64 < a.str.size := fun h4 => h2 ⟨h, h4⟩
    omega
theorem first_fair {k : Int} {l : List UInt8} {n : Nat} (hk : 1 ≤ k ∧ k ≤ 5) (h3 : ¬ k = 3) (tg : Bool) (he : errA (firstT k l n) = none) : Fair ⟨firstT k l n, tg⟩ where
  kind := hk
  num := fun _ => rfl
  str := fun h => absurd h h3
  quo := fun h => by cases h
  size := err_size he
  used := fun _ => by
    show (l.take n).length ≤ n
    rw [List.length_take]
    omega
theorem quo_fair : ∀ (m : Nat) (r out : List UInt8) (k : Nat), r.length ≤ m → (quoL r out k).err = none → (quoL r out k).kind = 1 ∧ (quoL r out k).num = 0 ∧ (quoL r out k).quo = true
  | _, [], _, _, _, h => by rw [quoL] at h; cases h
  | 0, _ :: _, _, _, h, _ => by simp at h
  | m + 1, [c], out, k, _, h => by
    rw [quoL] at h ⊢
    split at h
    · rename_i h1; rw [if_pos h1]; exact ⟨rfl, rfl, rfl⟩
    · split at h
      · cases h
      · split at h <;> cases h
  | m + 1, c :: d :: t, out, k, hl, h => by
    have hl2 : t.length + 1 ≤ m := by simpa using hl
    rw [quoL] at h ⊢
    by_cases h39 : c = 39
    · rw [if_pos h39] at h ⊢
      by_cases hd : d = 39
      · rw [if_pos hd] at h ⊢
        exact quo_fair m t _ _ (by omega) h
      · rw [if_neg hd]
        exact ⟨rfl, rfl, rfl⟩
    · rw [if_neg h39] at h ⊢
      by_cases h92 : c = 92
      · rw [if_pos h92] at h ⊢
        cases hx : esc d with
        | none => rw [hx] at h; cases h
        | some x =>
          rw [hx] at h
          exact quo_fair m t _ _ (by omega) h
      · rw [if_neg h92] at h ⊢
        by_cases hlow : (c.toNat : Int) < 32
        · rw [if_pos hlow] at h; cases h
        · rw [if_neg hlow] at h ⊢
          exact quo_fair m (d :: t) _ _ (by simpa using hl2) h
theorem one_fair (r : List UInt8) (tg : Bool) (he : errA (one1 r) = none) : Fair ⟨one1 r, tg⟩ := by
  revert he
  show errA (oneC (firstC r) r) = none → Fair ⟨oneC (firstC r) r, tg⟩
  unfold oneC
  split
  · exact first_fair (by decide) (by decide) tg
  split
  · exact first_fair (by decide) (by decide) tg
  split
  · intro he
    have h1 := err_none he
    unfold numA at h1 ⊢
    split at h1
    · cases h1
    rename_i hd
    rw [if_neg hd]
    split at h1
    · cases h1
    rename_i hb
    rw [if_neg hb]
    exact ⟨(by show (1 : Int) ≤ 3 ∧ (3 : Int) ≤ 5; decide), fun h => absurd rfl h, fun _ => rfl, (fun h => by cases h), (by show 0 ≤ 64; omega), fun _ => Nat.zero_le _⟩
  split
  · intro he
    have h1 := quo_fair (r.drop 1).length (r.drop 1) [] 1 (Nat.le_refl _) (err_none he)
    refine ⟨?_, fun _ => h1.2.1, fun h => ?_, fun _ => h1.1, err_size he, fun h => ?_⟩
    · show 1 ≤ (quoL (r.drop 1) [] 1).kind ∧ (quoL (r.drop 1) [] 1).kind ≤ 5
      rw [h1.1]; decide
    · have h : (quoL (r.drop 1) [] 1).kind = 3 := h
      rw [h1.1] at h
      cases h
    · have h : (quoL (r.drop 1) [] 1).quo = false := h
      rw [h1.2.2] at h
      cases h
  split
  · exact first_fair (by decide) (by decide) tg
  split
  · exact first_fair (by decide) (by decide) tg
  split
  · exact first_fair (by decide) (by decide) tg
  split
  · exact first_fair (by decide) (by decide) tg
  · intro h; cases h
def sumT (ts : List Tk) : Nat := (ts.map fun t => if t.a.quo = true then 0 else t.a.str.size).sum
theorem lx_fair {b : Bool} {l : List UInt8} {ts : List Tk} (h : Lx b l ts) : (∀ t ∈ ts, Fair t) ∧ sumT ts ≤ l.length ∧ ts.length ≤ l.length ∧ (b = false → ∀ t, ts[0]? = some t → t.tight = false) := by
  induction h with
  | done h => exact ⟨fun t ht => by simp at ht, Nat.zero_le _, Nat.zero_le _, fun _ t ht => by simp at ht⟩
  | @tok b l r a ts h hr ha he k ih =>
    subst hr
    have hlt := skip_lt h
    have hl : (l.drop (skipN l)).length = l.length - skipN l := List.length_drop
    have hf := one_fair (l.drop (skipN l)) (decide (skipN l = 0) && b) (by rw [← ha]; exact he)
    have hu := one1_used (r := l.drop (skipN l)) (by omega) (by rw [← ha]; exact he)
    rw [← ha] at hf hu
    obtain ⟨i1, i2, i3, _⟩ := ih
    have hl2 : ((l.drop (skipN l)).drop a.used).length = l.length - skipN l - a.used := by rw [List.length_drop, hl]
    refine ⟨fun t ht => ?_, ?_, ?_, fun hb t ht => ?_⟩
    · rcases List.mem_cons.1 ht with rfl | ht
      · exact hf
      · exact i1 t ht
    · unfold sumT at i2 ⊢
      rw [List.map_cons, List.sum_cons]
      have : (if a.quo = true then 0 else a.str.size) ≤ a.used := by
        split
        · omega
        · rename_i hq
          exact hf.used (by simpa using hq)
      show (if a.quo = true then 0 else a.str.size) + _ ≤ _
      omega
    · rw [List.length_cons]; omega
    · simp only [List.getElem?_cons_zero, Option.some.injEq] at ht
      subst ht
      show (decide (skipN l = 0) && b) = false
      rw [hb, Bool.and_false]
end Go.Proofs.Ytdbeiaohibgmeaa.TokP

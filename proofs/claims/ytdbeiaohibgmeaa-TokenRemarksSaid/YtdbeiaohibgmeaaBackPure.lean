/- Names quoted and scanned again; numbers told and scanned again. Conditions: none; plain lemmas. -/
import Derived.Test.YtdbeiaohibgmeaaLexPure
set_option linter.unusedVariables false
set_option linter.unusedSimpArgs false
namespace Go.Proofs.Ytdbeiaohibgmeaa.TokP
open Go.RowKit Go.Proofs.Ytdbeiaohibgmeaa.E Go.Proofs.Ytdbeiaohibgmeaa.ReplP
def okB (c : UInt8) : Bool := decide (¬ (c.toNat : Int) < 32) || (c == 10)
def quoteL (l : List UInt8) (p : Bool) : List UInt8 := if p = true then l else [39] ++ repl l ++ [39]
theorem run_stop {p : UInt8 → Bool} {x : UInt8} (h : p x = false) : ∀ (u t : List UInt8), u.all p = true → runB p (u ++ x :: t) = u.length
  | [], t, _ => by rw [List.nil_append, runB_no h]; rfl
  | c :: u, t, hu => by
    rw [List.all_cons, Bool.and_eq_true] at hu
    rw [List.cons_append, runB_yes hu.1, run_stop h u t hu.2]
    rfl
theorem run_allN {p : UInt8 → Bool} : ∀ (u : List UInt8), u.all p = true → runB p u = u.length
  | [], _ => rfl
  | c :: u, hu => by
    rw [List.all_cons, Bool.and_eq_true] at hu
    rw [runB_yes hu.1, run_allN u hu.2]
    rfl
theorem skip_zero {c : UInt8} {t : List UInt8} (h1 : ¬ c = 37) (h2 : blankB c = false) : skipN (c :: t) = 0 := by rw [skip_cons, if_neg h1, h2]; rfl
theorem skip_sp : skipN [32] = 1 := by rw [skip_cons, skip_nil]; rfl
theorem quo_repl : ∀ (l out : List UInt8) (k : Nat), l.all okB = true → quoL (repl l ++ [39, 32]) out k = .tok 1 ⟨(out ++ l).toArray⟩ 0 true (k + (repl l).length + 1)
  | [], out, k, _ => by
    show quoL [39, 32] out k = _
    rw [quoL, if_pos rfl, if_neg (by decide), List.append_nil]
    rfl
  | c :: l, out, k, h => by
    rw [List.all_cons, Bool.and_eq_true] at h
    have e : repl (c :: l) = one c ++ repl l := by simp [repl]
    have ih := fun x k => quo_repl l (out ++ [x]) k h.2
    by_cases h10 : c = 10
    · subst h10
      have e1 : one 10 = [92, 110] := rfl
      rw [e, e1]
      show quoL (92 :: 110 :: (repl l ++ [39, 32])) out k = _
      rw [quoL, if_neg (by decide), if_pos rfl]
      show quoL (repl l ++ [39, 32]) (out ++ [10]) (k + 2) = _
      rw [ih, List.append_assoc]
      congr 1
      simp; omega
    · by_cases h92 : c = 92
      · subst h92
        have e1 : one 92 = [92, 92] := rfl
        rw [e, e1]
        show quoL (92 :: 92 :: (repl l ++ [39, 32])) out k = _
        rw [quoL, if_neg (by decide), if_pos rfl]
        show quoL (repl l ++ [39, 32]) (out ++ [92]) (k + 2) = _
        rw [ih, List.append_assoc]
        congr 1
        simp; omega
      · by_cases h39 : c = 39
        · subst h39
          have e1 : one 39 = [39, 39] := rfl
          rw [e, e1]
          show quoL (39 :: 39 :: (repl l ++ [39, 32])) out k = _
          rw [quoL, if_pos rfl, if_pos rfl, ih, List.append_assoc]
          congr 1
          simp; omega
        · have e1 : one c = [c] := one_no (by unfold isSp; simp [h10, h92, h39])
          have hlow : ¬ (c.toNat : Int) < 32 := by
            have := h.1
            unfold okB at this
            simpa [h10] using this
          obtain ⟨d, t, ht⟩ : ∃ d t, repl l ++ [39, 32] = d :: t := by
            cases repl l with
            | nil => exact ⟨_, _, rfl⟩
            | cons d t => exact ⟨_, _, rfl⟩
          rw [e, e1]
          show quoL (c :: (repl l ++ [39, 32])) out k = _
          rw [ht, quoL, if_neg h39, if_neg h92, if_neg hlow, ← ht, ih, List.append_assoc]
          congr 1
          simp; omega
theorem sign_kind : ∀ c : UInt8, signB c = true → smallB c = false ∧ bigB c = false ∧ digitB c = false ∧ ((c.toNat : Int) == 39) = false ∧ punctL.contains c = false ∧ (((c.toNat : Int) == 33) || ((c.toNat : Int) == 59)) = false ∧ blankB c = false ∧ ((c.toNat : Int) == 37) = false := by
  have h : ∀ c ∈ signL, smallB c = false ∧ bigB c = false ∧ digitB c = false ∧ ((c.toNat : Int) == 39) = false ∧ punctL.contains c = false ∧ (((c.toNat : Int) == 33) || ((c.toNat : Int) == 59)) = false ∧ blankB c = false ∧ ((c.toNat : Int) == 37) = false := by decide
  intro c hc
  unfold signB at hc
  rw [List.contains_eq_mem, decide_eq_true_iff] at hc
  exact h c hc
theorem small_kind {c : UInt8} (h : smallB c = true) : ¬ c = 37 ∧ blankB c = false := by
  unfold smallB at h
  rw [Bool.and_eq_true, decide_eq_true_iff, decide_eq_true_iff] at h
  have ne : ∀ k : Int, k < 97 → ((c.toNat : Int) == k) = false := fun k hk => by rw [beq_eq_false_iff_ne]; omega
  refine ⟨fun h9 => ?_, ?_⟩
  · rw [h9] at h
    exact absurd h.1 (by decide)
  · unfold blankB
    rw [ne 9 (by omega), ne 10 (by omega), ne 13 (by omega), ne 32 (by omega)]
    rfl
theorem digit_kind {c : UInt8} (h : digitB c = true) : ¬ c = 37 ∧ blankB c = false ∧ smallB c = false ∧ bigB c = false := by
  unfold digitB at h
  rw [Bool.and_eq_true, decide_eq_true_iff, decide_eq_true_iff] at h
  have ne : ∀ k : Int, k < 48 → ((c.toNat : Int) == k) = false := fun k hk => by rw [beq_eq_false_iff_ne]; omega
  refine ⟨fun h9 => ?_, ?_, ?_, ?_⟩
  · rw [h9] at h
    exact absurd h.1 (by decide)
  · unfold blankB
    rw [ne 9 (by omega), ne 10 (by omega), ne 13 (by omega), ne 32 (by omega)]
    rfl
  · unfold smallB
    rw [decide_eq_false (by omega)]
    rfl
  · unfold bigB
    rw [decide_eq_false (by omega), Bool.false_and, Bool.false_or, beq_eq_false_iff_ne]
    omega
theorem lx_one {c : UInt8} {t : List UInt8} {a : Ans} (h1 : ¬ c = 37) (h2 : blankB c = false) (ha : one1 (c :: t) = a) (he : errA a = none) (hd : skipN ((c :: t).drop a.used) = ((c :: t).drop a.used).length) (b : Bool) : Lx b (c :: t) [⟨a, b⟩] := by
  have hz := skip_zero (t := t) h1 h2
  have := Lx.tok (b := b) (l := c :: t) (r := c :: t) (a := a) (ts := []) (by rw [hz]; simp) (by rw [hz]; rfl) ha.symm he (.done hd)
  have e : (decide (skipN (c :: t) = 0) && b) = b := by rw [hz]; rfl
  rw [e] at this
  exact this
theorem drop_sp (l : List UInt8) : (l ++ [32]).drop l.length = [32] := by rw [List.drop_append_of_le_length (Nat.le_refl _), List.drop_length]; rfl
theorem back_plain {c : UInt8} {t : List UInt8} (h1 : ¬ c = 37) (h2 : blankB c = false) (hl : (c :: t).length ≤ 64) (ha : one1 (c :: t ++ [32]) = firstT 1 (c :: t ++ [32]) (c :: t).length) (b : Bool) :
    ∃ a, Lx b (c :: t ++ [32]) [⟨a, b⟩] ∧ a.kind = 1 ∧ a.str = ⟨(c :: t).toArray⟩ ∧ a.quo = false := by
  have e : firstT 1 (c :: t ++ [32]) (c :: t).length = .tok 1 ⟨(c :: t).toArray⟩ 0 false (c :: t).length := by
    unfold firstT
    rw [List.take_left]
  rw [e] at ha
  refine ⟨_, lx_one h1 h2 ha ?_ ?_ b, rfl, rfl, rfl⟩
  · unfold errA
    rw [if_neg]
    · rfl
    · rintro ⟨_, h9⟩
      have h9 : 64 < (c :: t).length := h9
      omega
  · show skipN ((c :: t ++ [32] : List UInt8).drop (c :: t).length) = ((c :: t ++ [32] : List UInt8).drop (c :: t).length).length
    rw [drop_sp, skip_sp]
    rfl
theorem back_all {l : List UInt8} (hok : l.all okB = true) (hne : ¬ l = [91, 93]) (hl : l.length ≤ 64) (b : Bool) : ∃ a, Lx b (quoteL l (plainB l) ++ [32]) [⟨a, b⟩] ∧ a.kind = 1 ∧ a.str = ⟨l.toArray⟩ ∧ a.quo = !plainB l := by
  cases hp : plainB l with
  | false =>
    have hr : quoteL l false ++ [32] = 39 :: (repl l ++ [39, 32]) := by unfold quoteL; simp
    have ha : one1 (39 :: (repl l ++ [39, 32])) = .tok 1 ⟨l.toArray⟩ 0 true (1 + (repl l).length + 1) := by
      show quoL (repl l ++ [39, 32]) [] 1 = _
      rw [quo_repl l [] 1 hok, List.nil_append]
    rw [hr]
    have hdr : (39 :: (repl l ++ [39, 32])).drop (1 + (repl l).length + 1) = [32] := by
      rw [show 1 + (repl l).length + 1 = ((repl l).length + 1) + 1 by omega, List.drop_succ_cons, show repl l ++ [39, 32] = repl l ++ [39] ++ [32] by simp]
      rw [List.drop_append_of_le_length (by simp), List.drop_eq_nil_of_le (by simp)]
      rfl
    refine ⟨_, lx_one (by decide) (by decide) ha ?_ ?_ b, rfl, rfl, rfl⟩
    · unfold errA
      rw [if_neg]
      · rfl
      · rintro ⟨_, h9⟩
        have h9 : 64 < l.length := h9
        omega
    · show skipN ((39 :: (repl l ++ [39, 32])).drop (1 + (repl l).length + 1)) = ((39 :: (repl l ++ [39, 32])).drop (1 + (repl l).length + 1)).length
      rw [hdr, skip_sp]
      rfl
  | true =>
    have hr : quoteL l true = l := if_pos rfl
    rw [hr]
    have h1 : (l == [] || l == [46]) = false := by
      cases h : (l == [] || l == [46]) with
      | false => rfl
      | true => unfold plainB at hp; rw [if_pos h] at hp; cases hp
    rw [Bool.or_eq_false_iff, beq_eq_false_iff_ne, beq_eq_false_iff_ne] at h1
    obtain ⟨c, t, rfl⟩ := List.exists_cons_of_ne_nil h1.1
    by_cases h33 : c :: t = [33]
    · rw [h33] at hl ⊢
      exact back_plain (by decide) (by decide) hl (by rfl) b
    by_cases h59 : c :: t = [59]
    · rw [h59] at hl ⊢
      exact back_plain (by decide) (by decide) hl (by rfl) b
    have hp2 := plain_end (l := c :: t) (by simp) (by rw [beq_eq_false_iff_ne]; exact h1.2) (by rw [beq_eq_false_iff_ne]; exact hne) (by rw [beq_eq_false_iff_ne]; exact h33) (by rw [beq_eq_false_iff_ne]; exact h59)
    rw [hp] at hp2
    rcases (Bool.or_eq_true _ _).mp hp2.symm with h | h
    · rw [Bool.and_eq_true] at h
      have hs : smallB c = true := h.1
      have hk := small_kind hs
      refine back_plain hk.1 hk.2 hl ?_ b
      show oneC c (c :: t ++ [32]) = _
      unfold oneC
      rw [if_pos hs, run_stop (by rfl) (c :: t) [] h.2]
    · have hc : signB c = true := by
        rw [List.all_cons, Bool.and_eq_true] at h
        exact h.1
      obtain ⟨k1, k2, k3, k4, k5, k6, k7, k8⟩ := sign_kind c hc
      refine back_plain (fun h9 => by rw [h9] at k8; exact absurd k8 (by decide)) k7 hl ?_ b
      have hend : endsB (c :: t ++ [32]) = false := by
        unfold endsB
        cases t with
        | nil =>
          have : ¬ c = 46 := fun h9 => h1.2 (by rw [h9])
          have : pointB ([c] ++ [32]) = false := by
            show (c == 46) = false
            rw [beq_eq_false_iff_ne]
            exact this
          rw [this]
          rfl
        | cons d t =>
          have hd : signB d = true := by
            rw [List.all_cons, List.all_cons, Bool.and_eq_true, Bool.and_eq_true] at h
            exact h.2.1
          obtain ⟨_, _, _, _, _, _, d7, d8⟩ := sign_kind d hd
          have e1 : (((c :: d :: t ++ [32]).length : Int) == 1) = false := by
            rw [beq_eq_false_iff_ne]
            simp only [List.length_append, List.length_cons]
            omega
          have e2 : afterB (c :: d :: t ++ [32])[1]? = false := by
            show (blankB d || ((d.toNat : Int) == 37)) = false
            rw [d7, d8]
            rfl
          rw [e1, e2]
          simp
      show oneC c (c :: t ++ [32]) = _
      unfold oneC
      rw [k1, k2, k3, k4, k5, k6, hend, if_neg (by decide), if_neg (by decide), if_neg (by decide), if_neg (by decide), if_neg (by decide), if_neg (by decide), if_neg (by decide), if_pos hc, run_stop (by rfl) (c :: t) [] h]
/-! numbers -/
def figL (n : Nat) : List UInt8 := if n < 10 then [UInt8.ofNat (48 + n)] else figL (n / 10) ++ [UInt8.ofNat (48 + n % 10)]
termination_by n
decreasing_by omega
theorem fig_lt {n : Nat} (h : n < 10) : figL n = [UInt8.ofNat (48 + n)] := by rw [figL, if_pos h]
theorem fig_ge {n : Nat} (h : ¬ n < 10) : figL n = figL (n / 10) ++ [UInt8.ofNat (48 + n % 10)] := by rw [figL, if_neg h]
theorem fig_byte {n : Nat} (h : n < 10) : (UInt8.ofNat (48 + n)).toNat = 48 + n := by
  rw [UInt8.toNat_ofNat']
  omega
theorem fig_digit {n : Nat} (h : n < 10) : digitB (UInt8.ofNat (48 + n)) = true := by
  unfold digitB
  rw [fig_byte h, decide_eq_true (by omega), decide_eq_true (by omega)]
  rfl
theorem fig_all : ∀ (k n : Nat), n ≤ k → (figL n).all digitB = true ∧ valN (figL n) = n ∧ 1 ≤ (figL n).length
  | k, n, h => by
    by_cases hn : n < 10
    · rw [fig_lt hn]
      refine ⟨by rw [List.all_cons, fig_digit hn]; rfl, ?_, Nat.le_refl _⟩
      have := valN_snoc [] (UInt8.ofNat (48 + n))
      rw [List.nil_append, fig_byte hn] at this
      rw [this]
      show 10 * 0 + _ = n
      omega
    · match k, h with
      | 0, h => omega
      | k + 1, h =>
        have ih := fig_all k (n / 10) (by omega)
        rw [fig_ge hn]
        refine ⟨by rw [List.all_append, ih.1, List.all_cons, fig_digit (by omega)]; rfl, ?_, by rw [List.length_append]; simp⟩
        rw [valN_snoc, ih.2.1, fig_byte (by omega)]
        omega
theorem fig_len : ∀ (k n : Nat), n < 10 ^ (k + 1) → (figL n).length ≤ k + 1
  | k, n, h => by
    by_cases hn : n < 10
    · rw [fig_lt hn]; simp
    · match k, h with
      | 0, h => omega
      | k + 1, h =>
        rw [fig_ge hn, List.length_append]
        have := fig_len k (n / 10) (by rw [Nat.pow_succ] at h; omega)
        simp only [List.length_cons, List.length_nil]
        omega
theorem fig_cons (n : Nat) : ∃ c t, figL n = c :: t ∧ digitB c = true := by
  have h := fig_all n n (Nat.le_refl _)
  cases hf : figL n with
  | nil => rw [hf] at h; exact absurd h.2.2 (by decide)
  | cons c t =>
    rw [hf] at h
    rw [List.all_cons, Bool.and_eq_true] at h
    exact ⟨c, t, rfl, h.1.1⟩
theorem one_digit {c : UInt8} {t : List UInt8} (h : digitB c = true) : one1 (c :: t) = numA (c :: t) := by
  have hk := digit_kind h
  show oneC c (c :: t) = _
  unfold oneC
  rw [hk.2.2.1, hk.2.2.2, h]
  rfl
theorem num_fig (n : Nat) : numA (figL n) = if 9223372036854775808 < n then .bad w2 2 else .tok 3 ⟨#[]⟩ (IntKind.i64.wrap (n : Int)) false (figL n).length := by
  have h := fig_all n n (Nat.le_refl _)
  have hr : runB digitB (figL n) = (figL n).length := run_allN _ h.1
  have hf : figs (figL n) = figL n := by unfold figs; rw [hr, List.take_length]
  have hd : dottedB (figL n) (figL n).length = false := by
    unfold dottedB
    rw [decide_eq_false (by omega)]
    rfl
  unfold numA
  rw [hr, hd, hf, h.2.1]
  rfl
theorem num_dot (n m : Nat) : numA (figL n ++ 46 :: figL m) = .bad w1 4 := by
  have h := fig_all n n (Nat.le_refl _)
  have hr : runB digitB (figL n ++ 46 :: figL m) = (figL n).length := run_stop (by decide) _ _ h.1
  obtain ⟨c, t, hc, hd⟩ := fig_cons m
  have e : dottedB (figL n ++ 46 :: figL m) (figL n).length = true := by
    unfold dottedB
    have e1 : (figL n ++ 46 :: figL m)[(figL n).length]? = some 46 := by rw [List.getElem?_append_right (Nat.le_refl _), Nat.sub_self]; rfl
    have e2 : (figL n ++ 46 :: figL m)[(figL n).length + 1]? = some c := by
      rw [List.getElem?_append_right (by omega), show (figL n).length + 1 - (figL n).length = 1 by omega, hc]; rfl
    rw [e1, e2, decide_eq_true (by rw [hc]; simp only [List.length_append, List.length_cons]; omega)]
    show ((true && ((46 : Int) == 46)) && digitB c) = true
    rw [hd]
    rfl
  unfold numA
  rw [hr, if_pos e]
theorem lx_int {n : Nat} (h : ¬ 9223372036854775808 < n) : Lx false (32 :: figL n) [⟨.tok 3 ⟨#[]⟩ (IntKind.i64.wrap (n : Int)) false (figL n).length, false⟩] := by
  obtain ⟨c, t, hc, hd⟩ := fig_cons n
  have hk := digit_kind hd
  have hp : padB [32] := fun x => by rw [List.cons_append, skip_cons]; rfl
  have ha : one1 (c :: t) = .tok 3 ⟨#[]⟩ (IntKind.i64.wrap (n : Int)) false (figL n).length := by rw [one_digit hd, ← hc, num_fig, if_neg h]
  have h1 := lx_one (b := false) hk.1 hk.2.1 ha (by unfold errA; rw [if_neg (by rintro ⟨_, h9⟩; exact absurd h9 (by show ¬ 64 < 0; decide))]; rfl) (by
    show skipN ((c :: t).drop (figL n).length) = ((c :: t).drop (figL n).length).length
    rw [← hc, List.drop_length, skip_nil]
    rfl)
  rw [← hc] at h1
  exact lx_pad hp h1
theorem lb_int {n : Nat} (h : 9223372036854775808 < n) : Lb (32 :: figL n) 1 (w2, 2) := by
  obtain ⟨c, t, hc, hd⟩ := fig_cons n
  have hk := digit_kind hd
  have hp : padB [32] := fun x => by rw [List.cons_append, skip_cons]; rfl
  have hz := skip_zero (t := t) hk.1 hk.2.1
  have h1 : Lb (figL n) (skipN (figL n)) (w2, 2) := by
    refine .bad (r := figL n) ?_ ?_ ?_
    · rw [hc, hz]; simp
    · rw [hc, hz]; rfl
    · rw [hc, one_digit hd, ← hc, num_fig, if_pos h]; rfl
  rw [hc, hz] at h1
  have h2 := lb_pad hp h1
  rw [← hc] at h2
  exact h2
theorem lb_dot (n m : Nat) : Lb (figL n ++ 46 :: figL m) 0 (w1, 4) := by
  obtain ⟨c, t, hc, hd⟩ := fig_cons n
  have hk := digit_kind hd
  have hz := skip_zero (t := t ++ 46 :: figL m) hk.1 hk.2.1
  have h1 : Lb (figL n ++ 46 :: figL m) (skipN (figL n ++ 46 :: figL m)) (w1, 4) := by
    refine .bad (r := figL n ++ 46 :: figL m) ?_ ?_ ?_
    · rw [hc, List.cons_append, hz]; simp
    · rw [hc, List.cons_append, hz]; rfl
    · rw [hc, List.cons_append, one_digit hd, ← List.cons_append, ← hc, num_dot]; rfl
  have hz2 : skipN (figL n ++ 46 :: figL m) = 0 := by rw [hc, List.cons_append, hz]
  rw [hz2] at h1
  exact h1
end Go.Proofs.Ytdbeiaohibgmeaa.TokP

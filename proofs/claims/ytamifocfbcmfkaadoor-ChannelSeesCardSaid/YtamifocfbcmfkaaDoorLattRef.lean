/- The document's table of levels: the plain law, and how it lies in memory. Conditions: none; plain lemmas. -/
import Derived.Test.YtamifocfbcmfkaaDoorLattLaw
set_option linter.unusedVariables false
set_option linter.unusedSimpArgs false
namespace Go.Proofs.YtamifocfbcmfkaaDoor.LattP
open Go.RowKit Go.Proofs.YtamifocfbcmfkaaDoor.E
abbrev Dt := Nat → Nat → Bool
def leqD (n : Nat) (d : Dt) (a b : Int) : Bool := isI n a && isI n b && d a.toNat b.toNat
def badU (n : Nat) (d : Dt) (a b : Int) (c e : Nat) : Bool := leqD n d a e && leqD n d b e && !leqD n d c e
def badL (n : Nat) (d : Dt) (a b : Int) (c e : Nat) : Bool := leqD n d e a && leqD n d e b && !leqD n d e c
def lubD (n : Nat) (d : Dt) (a b : Int) (c : Nat) : Bool := leqD n d a c && leqD n d b c && (List.range n).all fun e => !badU n d a b c e
def glbD (n : Nat) (d : Dt) (a b : Int) (c : Nat) : Bool := leqD n d c a && leqD n d c b && (List.range n).all fun e => !badL n d a b c e
def joinD (n : Nat) (d : Dt) (a b : Int) : Int := firstI n (lubD n d a b)
def meetD (n : Nat) (d : Dt) (a b : Int) : Int := firstI n (glbD n d a b)
def botD (n : Nat) (d : Dt) : Int := firstI n fun c => (List.range n).all fun e => d c e
def topD (n : Nat) (d : Dt) : Int := firstI n fun c => (List.range n).all fun e => d e c
theorem leqD_nat {n : Nat} {d : Dt} {a b : Nat} (ha : a < n) (hb : b < n) : leqD n d a b = d a b := by
  unfold leqD
  rw [isI_nat, isI_nat]
  simp [ha, hb]
/-- The table tells what follows. -/
def Tells (n : Nat) (d : Dt) (p : List (Int × Int)) : Prop := ∀ a b, a < n → b < n → (d a b = true ↔ Reach p a b)
section
variable {n : Nat} {d : Dt} {p : List (Int × Int)}
theorem leq_eq (h : Tells n d p) (a b : Int) : leqI n (ru n p) a b = leqD n d a b := by
  cases ha : isI n a with
  | false => unfold leqI leqD; rw [ha]; rfl
  | true =>
    cases hb : isI n b with
    | false => unfold leqI leqD; rw [hb]; simp
    | true =>
      obtain ⟨a, rfl, h1⟩ := isI_some ha
      obtain ⟨b, rfl, h2⟩ := isI_some hb
      apply Bool.eq_iff_iff.2
      rw [leq_ru h1 h2, leqD_nat h1 h2, h a b h1 h2]
theorem lubD_iff (h : Tells n d p) {a b c : Nat} (ha : a < n) (hb : b < n) (hc : c < n) : lubD n d a b c = true ↔ Lub n (Reach p) a b c := by
  unfold lubD
  rw [Bool.and_eq_true, Bool.and_eq_true, leqD_nat ha hc, leqD_nat hb hc, h a c ha hc, h b c hb hc, List.all_eq_true]
  constructor
  · rintro ⟨⟨h1, h2⟩, h3⟩
    refine ⟨h1, h2, fun e he h4 h5 => ?_⟩
    have := h3 e (List.mem_range.2 he)
    unfold badU at this
    rw [leqD_nat ha he, leqD_nat hb he, leqD_nat hc he, (h a e ha he).2 h4, (h b e hb he).2 h5] at this
    exact (h c e hc he).1 (by simpa using this)
  · rintro ⟨h1, h2, h3⟩
    refine ⟨⟨h1, h2⟩, fun e he => ?_⟩
    have he := List.mem_range.1 he
    unfold badU
    rw [leqD_nat ha he, leqD_nat hb he, leqD_nat hc he]
    cases h4 : d a e with
    | false => rfl
    | true =>
      cases h5 : d b e with
      | false => rfl
      | true =>
        rw [(h c e hc he).2 (h3 e he ((h a e ha he).1 h4) ((h b e hb he).1 h5))]
        rfl
theorem glbD_iff (h : Tells n d p) {a b c : Nat} (ha : a < n) (hb : b < n) (hc : c < n) : glbD n d a b c = true ↔ Glb n (Reach p) a b c := by
  unfold glbD
  rw [Bool.and_eq_true, Bool.and_eq_true, leqD_nat hc ha, leqD_nat hc hb, h c a hc ha, h c b hc hb, List.all_eq_true]
  constructor
  · rintro ⟨⟨h1, h2⟩, h3⟩
    refine ⟨h1, h2, fun e he h4 h5 => ?_⟩
    have := h3 e (List.mem_range.2 he)
    unfold badL at this
    rw [leqD_nat he ha, leqD_nat he hb, leqD_nat he hc, (h e a he ha).2 h4, (h e b he hb).2 h5] at this
    exact (h e c he hc).1 (by simpa using this)
  · rintro ⟨h1, h2, h3⟩
    refine ⟨⟨h1, h2⟩, fun e he => ?_⟩
    have he := List.mem_range.1 he
    unfold badL
    rw [leqD_nat he ha, leqD_nat he hb, leqD_nat he hc]
    cases h4 : d e a with
    | false => rfl
    | true =>
      cases h5 : d e b with
      | false => rfl
      | true =>
        rw [(h e c he hc).2 (h3 e he ((h e a he ha).1 h4) ((h e b he hb).1 h5))]
        rfl
theorem joinD_cases (h : Tells n d p) {a b : Nat} (ha : a < n) (hb : b < n) : (∃ c, c < n ∧ joinD n d a b = (c : Int) ∧ Lub n (Reach p) a b c) ∨ (joinD n d a b = -1 ∧ ¬ ∃ c, c < n ∧ Lub n (Reach p) a b c) := by
  rcases firstI_cases n (lubD n d a b) with ⟨i, h1, h2, h3, h4⟩ | ⟨h1, h2⟩
  · exact .inl ⟨i, h1, h4, (lubD_iff h ha hb h1).1 h2⟩
  · refine .inr ⟨h2, ?_⟩
    rintro ⟨c, hc, hl⟩
    have := h1 c hc
    rw [(lubD_iff h ha hb hc).2 hl] at this
    cases this
theorem meetD_cases (h : Tells n d p) {a b : Nat} (ha : a < n) (hb : b < n) : (∃ c, c < n ∧ meetD n d a b = (c : Int) ∧ Glb n (Reach p) a b c) ∨ (meetD n d a b = -1 ∧ ¬ ∃ c, c < n ∧ Glb n (Reach p) a b c) := by
  rcases firstI_cases n (glbD n d a b) with ⟨i, h1, h2, h3, h4⟩ | ⟨h1, h2⟩
  · exact .inl ⟨i, h1, h4, (glbD_iff h ha hb h1).1 h2⟩
  · refine .inr ⟨h2, ?_⟩
    rintro ⟨c, hc, hl⟩
    have := h1 c hc
    rw [(glbD_iff h ha hb hc).2 hl] at this
    cases this
theorem leqD_out {a b : Int} (h : isI n a = false ∨ isI n b = false) : leqD n d a b = false := by
  unfold leqD
  rcases h with h | h <;> rw [h] <;> simp
theorem join_eq (h : Tells n d p) (anti : ∀ a b, a < n → b < n → Reach p a b → Reach p b a → a = b) (a b : Int) : joinI n (ru n p) a b = joinD n d a b := by
  by_cases hh : isI n a = true ∧ isI n b = true
  · obtain ⟨a, rfl, ha⟩ := isI_some hh.1
    obtain ⟨b, rfl, hb⟩ := isI_some hh.2
    rcases join_cases (p := p) ha hb with ⟨c, h1, h2, h3⟩ | ⟨h2, h3⟩
    · rcases joinD_cases h ha hb with ⟨e, h4, h5, h6⟩ | ⟨h5, h6⟩
      · rw [h2, h5, anti c e h1 h4 (h3.2.2 e h4 h6.1 h6.2.1) (h6.2.2 c h1 h3.1 h3.2.1)]
      · exact absurd ⟨c, h1, h3⟩ h6
    · rcases joinD_cases h ha hb with ⟨e, h4, h5, h6⟩ | ⟨h5, h6⟩
      · exact absurd ⟨e, h4, h6⟩ h3
      · rw [h2, h5]
  · have h1 : (isI n a && isI n b) = false := by
      cases h2 : isI n a <;> cases h3 : isI n b <;> simp_all
    rw [join_out h1]
    unfold joinD
    rw [firstI_none]
    intro c hc
    unfold lubD
    rw [Bool.and_eq_false_iff] at h1
    rcases h1 with h1 | h1
    · rw [leqD_out (.inl h1)]; rfl
    · rw [leqD_out (a := b) (.inl h1)]; simp
theorem meet_eq (h : Tells n d p) (anti : ∀ a b, a < n → b < n → Reach p a b → Reach p b a → a = b) (a b : Int) : meetI n (ru n p) a b = meetD n d a b := by
  by_cases hh : isI n a = true ∧ isI n b = true
  · obtain ⟨a, rfl, ha⟩ := isI_some hh.1
    obtain ⟨b, rfl, hb⟩ := isI_some hh.2
    rcases meet_cases (p := p) ha hb with ⟨c, h1, h2, h3⟩ | ⟨h2, h3⟩
    · rcases meetD_cases h ha hb with ⟨e, h4, h5, h6⟩ | ⟨h5, h6⟩
      · rw [h2, h5, anti c e h1 h4 (h6.2.2 c h1 h3.1 h3.2.1) (h3.2.2 e h4 h6.1 h6.2.1)]
      · exact absurd ⟨c, h1, h3⟩ h6
    · rcases meetD_cases h ha hb with ⟨e, h4, h5, h6⟩ | ⟨h5, h6⟩
      · exact absurd ⟨e, h4, h6⟩ h3
      · rw [h2, h5]
  · have h1 : (isI n a && isI n b) = false := by
      cases h2 : isI n a <;> cases h3 : isI n b <;> simp_all
    rw [meet_out h1]
    unfold meetD
    rw [firstI_none]
    intro c hc
    unfold glbD
    rw [Bool.and_eq_false_iff] at h1
    rcases h1 with h1 | h1
    · rw [leqD_out (b := a) (.inr h1)]; rfl
    · rw [leqD_out (b := b) (.inr h1)]; simp
theorem bot_eq (h : Tells n d p) {j m : Nat → Nat → Nat} {lo hi : Nat} (L : Lat2 n p j m lo hi) : botI n (ru n p) = botD n d := by
  rw [L.loe]
  unfold botD
  refine (firstI_at L.lon (List.all_eq_true.2 fun e he => (h lo e L.lon (List.mem_range.1 he)).2 (L.lol e (List.mem_range.1 he))) (fun c hc => ?_)).symm
  cases hall : (List.range n).all fun e => d c e with
  | false => rfl
  | true =>
    have hcn : c < n := Nat.lt_trans hc L.lon
    have h1 := (h c lo hcn L.lon).1 (List.all_eq_true.1 hall lo (List.mem_range.2 L.lon))
    have := L.anti c lo hcn L.lon h1 (L.lol c hcn)
    omega
theorem top_eq (h : Tells n d p) {j m : Nat → Nat → Nat} {lo hi : Nat} (L : Lat2 n p j m lo hi) : topI n (ru n p) = topD n d := by
  rw [L.hie]
  unfold topD
  refine (firstI_at L.hin (List.all_eq_true.2 fun e he => (h e hi (List.mem_range.1 he) L.hin).2 (L.hir e (List.mem_range.1 he))) (fun c hc => ?_)).symm
  cases hall : (List.range n).all fun e => d e c with
  | false => rfl
  | true =>
    have hcn : c < n := Nat.lt_trans hc L.hin
    have h1 := (h hi c L.hin hcn).1 (List.all_eq_true.1 hall hi (List.mem_range.2 L.hin))
    have := L.anti hi c L.hin hcn h1 (L.hir c hcn)
    omega
/-- what the document asks of two levels -/
def okD (n : Nat) (d : Dt) (a b : Nat) : Bool := !((a : Int) != (b : Int) && d a b && d b a) && !decide (joinD n d a b < 0) && !decide (meetD n d a b < 0)
theorem okD_latt (h : Tells n d p) (hk : ∀ a, a < n → ∀ b, b < n → okD n d a b = true) : IsLatt n p where
  anti := fun a b ha hb h1 h2 => by
    have := hk a ha b hb
    unfold okD at this
    rw [(h a b ha hb).2 h1, (h b a hb ha).2 h2, cast_bne] at this
    by_cases e : a = b
    · exact e
    · have e' : (a != b) = true := by simpa using e
      rw [e'] at this
      simp at this
  lub := fun a b ha hb => by
    have := hk a ha b hb
    unfold okD at this
    rcases joinD_cases h ha hb with ⟨c, h1, h2, h3⟩ | ⟨h1, h2⟩
    · exact ⟨c, h1, h3⟩
    · rw [h1] at this
      simp at this
  glb := fun a b ha hb => by
    have := hk a ha b hb
    unfold okD at this
    rcases meetD_cases h ha hb with ⟨c, h1, h2, h3⟩ | ⟨h1, h2⟩
    · exact ⟨c, h1, h3⟩
    · rw [h1] at this
      simp at this
theorem okD_of (h : Tells n d p) (L : IsLatt n p) {a b : Nat} (ha : a < n) (hb : b < n) : okD n d a b = true := by
  unfold okD
  simp only [Bool.and_eq_true, Bool.not_eq_true', Bool.and_eq_false_iff, decide_eq_false_iff_not]
  refine ⟨⟨?_, ?_⟩, ?_⟩
  · cases h1 : d a b with
    | false => exact .inl (.inr rfl)
    | true =>
      cases h2 : d b a with
      | false => exact .inr rfl
      | true =>
        have := L.anti a b ha hb ((h a b ha hb).1 h1) ((h b a hb ha).1 h2)
        subst this
        left; left
        simp
  · rcases joinD_cases h ha hb with ⟨c, h1, h2, h3⟩ | ⟨h1, h2⟩
    · rw [h2]; omega
    · exact absurd (L.lub a b ha hb) h2
  · rcases meetD_cases h ha hb with ⟨c, h1, h2, h3⟩ | ⟨h1, h2⟩
    · rw [h2]; omega
    · exact absurd (L.glb a b ha hb) h2
end
/-! the table as it closes -/
def t0 (q : List (Int × Int)) : Dt := fun a b => a == b || q.any fun x => x.1 == (a : Int) && x.2 == (b : Int)
def upd2 (t : Dt) (k : Nat) : Dt := fun a b => t a b || (t a k && t k b)
def tw (q : List (Int × Int)) : Nat → Dt
  | 0 => t0 q
  | k + 1 => upd2 (tw q k) k
theorem t0_iff {q : List (Int × Int)} {a b : Nat} : t0 q a b = true ↔ a = b ∨ ((a : Int), (b : Int)) ∈ q := by
  unfold t0
  rw [Bool.or_eq_true, beq_iff_eq, List.any_eq_true]
  constructor
  · rintro (h | ⟨⟨x, y⟩, h1, h2⟩)
    · exact .inl h
    · simp only [Bool.and_eq_true, beq_iff_eq] at h2
      obtain ⟨rfl, rfl⟩ := h2
      exact .inr h1
  · rintro (h | h)
    · exact .inl h
    · exact .inr ⟨_, h, by simp⟩
theorem tw_refl (q : List (Int × Int)) (a : Nat) : ∀ k, tw q k a a = true
  | 0 => t0_iff.2 (.inl rfl)
  | k + 1 => by
    unfold tw upd2
    rw [tw_refl q a k]
    rfl
theorem tw_mono (q : List (Int × Int)) {a b : Nat} : ∀ k, t0 q a b = true → tw q k a b = true
  | 0, h => h
  | k + 1, h => by
    unfold tw upd2
    rw [tw_mono q k h]
    rfl
theorem tw_sound (q : List (Int × Int)) {a b : Nat} : ∀ k, tw q k a b = true → Reach q a b
  | 0, h => by
    rcases t0_iff.1 h with h | h
    · subst h; exact .refl a
    · exact .one h
  | k + 1, h => by
    unfold tw upd2 at h
    rw [Bool.or_eq_true, Bool.and_eq_true] at h
    rcases h with h | ⟨h1, h2⟩
    · exact tw_sound q k h
    · exact (tw_sound q k h1).trans (tw_sound q k h2)
theorem upd2_at {t : Dt} {k a : Nat} (h : t k k = true) : upd2 t k a k = t a k := by
  unfold upd2
  rw [h]
  simp
theorem upd2_to {t : Dt} {k b : Nat} (h : t k k = true) : upd2 t k k b = t k b := by
  unfold upd2
  rw [h]
  simp
theorem tw_closed (q : List (Int × Int)) : ∀ k c, c < k → ∀ a b, tw q k a c = true → tw q k c b = true → tw q k a b = true
  | 0, c, h, _, _, _, _ => absurd h (Nat.not_lt_zero c)
  | k + 1, c, h, a, b, h1, h2 => by
    have hkk := tw_refl q k k
    rcases Nat.lt_succ_iff_lt_or_eq.1 h with h3 | h3
    · have ih := tw_closed q k c h3
      unfold tw upd2 at h1 h2 ⊢
      rw [Bool.or_eq_true, Bool.and_eq_true] at h1 h2 ⊢
      rcases h1 with h1 | ⟨h1, h1'⟩ <;> rcases h2 with h2 | ⟨h2, h2'⟩
      · exact .inl (ih a b h1 h2)
      · exact .inr ⟨ih a k h1 h2, h2'⟩
      · exact .inr ⟨h1, ih k b h1' h2⟩
      · exact .inr ⟨h1, h2'⟩
    · subst h3
      have e1 : tw q (c + 1) a c = tw q c a c := upd2_at hkk
      have e2 : tw q (c + 1) c b = tw q c c b := upd2_to hkk
      rw [e1] at h1
      rw [e2] at h2
      show upd2 (tw q c) c a b = true
      unfold upd2
      rw [h1, h2]
      simp
theorem tw_tells {n : Nat} {q : List (Int × Int)} (hq : InR n q) : Tells n (tw q n) q := fun a b ha hb => by
  refine ⟨tw_sound q n, fun h => ?_⟩
  induction h with
  | refl => exact tw_refl q a n
  | @step b c k hm ih =>
    have hb' : b < n := k.lt hq ha
    exact tw_closed q n b hb' a c (ih hb') (tw_mono q n (t0_iff.2 (.inr hm)))
/-- the table while row a, up to b, has been seen in round k -/
def cur (t : Dt) (k a b : Nat) : Dt := fun x y => if x < a ∨ (x = a ∧ y < b) then upd2 t k x y else t x y
theorem cur_start (t : Dt) (k : Nat) : cur t k 0 0 = t := by
  funext x y
  unfold cur
  rw [if_neg (by omega)]
theorem cur_here (t : Dt) (k a b : Nat) : cur t k a b a b = t a b := by
  unfold cur
  rw [if_neg (by omega)]
theorem cur_at {t : Dt} {k : Nat} (h : t k k = true) (a b x : Nat) : cur t k a b x k = t x k := by
  unfold cur
  split
  · exact upd2_at h
  · rfl
theorem cur_to {t : Dt} {k : Nat} (h : t k k = true) (a b y : Nat) : cur t k a b k y = t k y := by
  unfold cur
  split
  · exact upd2_to h
  · rfl
/-- rows in memory -/
def rowC (n : Nat) (f : Nat → Bool) : List Value := (List.range n).map fun b => .bool (f b)
theorem rowC_len (n : Nat) (f : Nat → Bool) : (rowC n f).length = n := by simp [rowC]
theorem rowC_get {n : Nat} {f : Nat → Bool} {b : Nat} (hb : b < n) : (rowC n f)[b]? = some (.bool (f b)) := by simp [rowC, hb]
def setB (f : Nat → Bool) (b : Nat) (v : Bool) : Nat → Bool := fun y => if y = b then v else f y
theorem rowC_st {n : Nat} {f : Nat → Bool} {b : Nat} {v : Bool} (hb : b < n) : (rowC n f).take (0 + ((b : Int)).toNat * 1) ++ [.bool v] ++ (rowC n f).drop (0 + ((b : Int)).toNat * 1 + [Value.bool v].length) = rowC n (setB f b v) := by
  have h0 : 0 + ((b : Int)).toNat * 1 = b := by simp
  rw [h0]
  apply List.ext_getElem?
  intro j
  rcases Nat.lt_trichotomy j b with h1 | h1 | h1
  · rw [List.append_assoc, List.getElem?_append_left (by simp [rowC_len]; omega), List.getElem?_take, if_pos h1, rowC_get (by omega), rowC_get (by omega)]
    simp [setB, Nat.ne_of_lt h1]
  · subst h1
    rw [List.getElem?_append_left (by simp [rowC_len]; omega), List.getElem?_append_right (by simp [rowC_len]; omega), rowC_get hb]
    have : j - (List.take j (rowC n f)).length = 0 := by simp [rowC_len]; omega
    rw [this]
    simp [setB]
  · rw [List.getElem?_append_right (by simp [rowC_len]; omega), List.getElem?_drop]
    have h2 : b + [Value.bool v].length + (j - (List.take b (rowC n f) ++ [Value.bool v]).length) = j := by
      simp [rowC_len]; omega
    rw [h2]
    by_cases h3 : j < n
    · rw [rowC_get h3, rowC_get h3]
      simp [setB, Nat.ne_of_gt h1]
    · rw [List.getElem?_eq_none (by rw [rowC_len]; omega), List.getElem?_eq_none (by rw [rowC_len]; omega)]
theorem cur_step {t : Dt} {k : Nat} (a b : Nat) : (fun x => if x = a then setB (cur t k a b a) b (upd2 t k a b) else cur t k a b x) = cur t k a (b + 1) := by
  funext x y
  unfold setB cur
  by_cases h : x = a
  · subst h
    rw [if_pos rfl]
    by_cases h2 : y = b
    · subst h2
      rw [if_pos rfl, if_pos (by omega)]
    · rw [if_neg h2]
      by_cases h3 : y < b
      · rw [if_pos (by omega), if_pos (by omega)]
      · rw [if_neg (by omega), if_neg (by omega)]
  · rw [if_neg h]
    by_cases h3 : x < a
    · rw [if_pos (by omega), if_pos (by omega)]
    · rw [if_neg (by omega), if_neg (by omega)]
theorem cur_row {t : Dt} {k n : Nat} (a : Nat) (x : Nat) : rowC n (cur t k a n x) = rowC n (cur t k (a + 1) 0 x) := by
  unfold rowC
  apply List.map_congr_left
  intro y hy
  have hy := List.mem_range.1 hy
  congr 1
  unfold cur
  by_cases h : x < a ∨ x = a
  · rw [if_pos (by omega), if_pos (by omega)]
  · rw [if_neg (by omega), if_neg (by omega)]
theorem cur_end {t : Dt} {k n : Nat} {x : Nat} (hx : x < n) : rowC n (cur t k n 0 x) = rowC n (upd2 t k x) := by
  unfold rowC
  apply List.map_congr_left
  intro y hy
  congr 1
  unfold cur
  rw [if_pos (.inl hx)]
/-- the table in memory -/
def RefT (h : Hp) (A : Option Addr) (n : Nat) (d : Dt) : Prop :=
  ∀ a, a < n → ∃ g0 g c, A = some ⟨g0, 0, none⟩ ∧ h.cell ⟨g0, 0 + ((a : Int)).toNat * 1, none⟩ = some (.slice (some ⟨g, 0, none⟩) n c) ∧ ∀ b : Nat, b < n → h.cell ⟨g, 0 + ((b : Int)).toNat * 1, none⟩ = some (.bool (d a b))
theorem RefT.le {h h' : Hp} {A : Option Addr} {n : Nat} {d : Dt} (hp : RefT h A n d) (hl : h.Le h') : RefT h' A n d := fun a ha => by
  obtain ⟨g0, g, c, h1, h2, h3⟩ := hp a ha
  exact ⟨g0, g, c, h1, hl.cell h2, fun b hb => hl.cell (h3 b hb)⟩
end Go.Proofs.YtamifocfbcmfkaaDoor.LattP

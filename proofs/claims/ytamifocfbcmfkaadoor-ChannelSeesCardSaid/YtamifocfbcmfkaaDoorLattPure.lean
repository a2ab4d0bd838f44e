/- Levels as bits, and what pairs of them say: the plain law, with no program in sight. Conditions: none; plain lemmas. -/
import Derived.RowKit
set_option linter.unusedVariables false
set_option linter.unusedSimpArgs false
namespace Go.Proofs.YtamifocfbcmfkaaDoor.LattP

/-- Of each level its bits. -/
abbrev U := Nat → Nat
def isI (n : Nat) (a : Int) : Bool := decide (0 ≤ a) && decide (a < n)
def leqI (n : Nat) (u : U) (a b : Int) : Bool := isI n a && isI n b && (u a.toNat).testBit b.toNat
def firstI (n : Nat) (p : Nat → Bool) : Int := match (List.range n).find? p with | some c => (c : Int) | none => -1
def lubB (u : U) (both c : Nat) : Bool := both.testBit c && (u c &&& both == both)
def joinI (n : Nat) (u : U) (a b : Int) : Int := if isI n a && isI n b then firstI n (lubB u (u a.toNat &&& u b.toNat)) else -1
def bestI (p : Nat → Bool) (le : Int → Int → Bool) : Nat → Int
  | 0 => -1
  | k + 1 => if p k && (bestI p le k == -1 || le (bestI p le k) k) then (k : Int) else bestI p le k
def lowB (n : Nat) (u : U) (a b : Int) (c : Nat) : Bool := leqI n u c a && leqI n u c b
def meetI (n : Nat) (u : U) (a b : Int) : Int :=
  if isI n a && isI n b then
    (if (List.range n).all (fun c => !lowB n u a b c || leqI n u c (bestI (lowB n u a b) (leqI n u) n)) then bestI (lowB n u a b) (leqI n u) n else -1)
  else -1
def botI (n : Nat) (u : U) : Int := bestI (fun _ => true) (fun x y => leqI n u y x) n
def topI (n : Nat) (u : U) : Int := bestI (fun _ => true) (leqI n u) n

theorem isI_nat {n a : Nat} : isI n (a : Int) = decide (a < n) := by
  unfold isI
  by_cases h : a < n <;> simp [h]
theorem isI_some {n : Nat} {a : Int} (h : isI n a = true) : ∃ k : Nat, a = (k : Int) ∧ k < n := by
  unfold isI at h
  simp only [Bool.and_eq_true, decide_eq_true_eq] at h
  exact ⟨a.toNat, by omega, by omega⟩
theorem leqI_nat {n : Nat} {u : U} {a b : Nat} (ha : a < n) (hb : b < n) : leqI n u a b = (u a).testBit b := by
  unfold leqI
  rw [isI_nat, isI_nat]
  simp [ha, hb]

/-! the first one -/
theorem firstI_cases (n : Nat) (p : Nat → Bool) : (∃ i, i < n ∧ p i = true ∧ (∀ c, c < i → p c = false) ∧ firstI n p = (i : Int)) ∨ ((∀ c, c < n → p c = false) ∧ firstI n p = -1) := by
  unfold firstI
  cases hf : (List.range n).find? p with
  | none =>
    right
    refine ⟨fun c hc => ?_, rfl⟩
    have := List.find?_eq_none.1 hf c (List.mem_range.2 hc)
    simpa using this
  | some i =>
    left
    obtain ⟨h1, h2, h3⟩ := List.find?_range_eq_some.1 hf
    refine ⟨i, List.mem_range.1 h2, h1, fun c hc => ?_, rfl⟩
    simpa using h3 c hc
theorem firstI_at {n i : Nat} {p : Nat → Bool} (hi : i < n) (hp : p i = true) (hc : ∀ c, c < i → p c = false) : firstI n p = (i : Int) := by
  rcases firstI_cases n p with ⟨j, h1, h2, h3, h4⟩ | ⟨h1, h2⟩
  · rw [h4]
    rcases Nat.lt_trichotomy i j with h | h | h
    · rw [h3 i h] at hp; cases hp
    · rw [h]
    · rw [hc j h] at h2; cases h2
  · rw [h1 i hi] at hp; cases hp
theorem firstI_none {n : Nat} {p : Nat → Bool} (hc : ∀ c, c < n → p c = false) : firstI n p = -1 := by
  rcases firstI_cases n p with ⟨j, h1, h2, h3, h4⟩ | ⟨h1, h2⟩
  · rw [hc j h1] at h2; cases h2
  · exact h2

/-! the best one -/
theorem bestI_cases (p : Nat → Bool) (le : Int → Int → Bool) : ∀ k, (bestI p le k = -1 ∧ ∀ c, c < k → p c = false) ∨ ∃ m, m < k ∧ bestI p le k = (m : Int) ∧ p m = true
  | 0 => .inl ⟨rfl, fun c hc => absurd hc (Nat.not_lt_zero c)⟩
  | k + 1 => by
    unfold bestI
    rcases bestI_cases p le k with ⟨h1, h2⟩ | ⟨m, h1, h2, h3⟩
    · by_cases hp : p k = true
      · right
        exact ⟨k, by omega, by simp [hp, h1], hp⟩
      · left
        refine ⟨by simp [hp, h1], fun c hc => ?_⟩
        rcases Nat.lt_succ_iff_lt_or_eq.1 hc with h | h
        · exact h2 c h
        · subst h; simpa using hp
    · right
      by_cases hg : (p k && (bestI p le k == -1 || le (bestI p le k) k)) = true
      · rw [if_pos hg]
        exact ⟨k, by omega, rfl, by simp only [Bool.and_eq_true] at hg; exact hg.1⟩
      · rw [if_neg hg]
        exact ⟨m, by omega, h2, h3⟩
theorem bestI_great {n : Nat} {p : Nat → Bool} {le : Int → Int → Bool} {S : Nat → Nat → Prop} (hle : ∀ x y, x < n → y < n → (le (x : Int) (y : Int) = true ↔ S x y)) (htr : ∀ x y z, S x y → S y z → S x z) {g : Nat} (hgn : g < n) (hgp : p g = true) (hg : ∀ c, c < n → p c = true → S c g) (hgg : S g g) :
    ∀ k, g < k → k ≤ n → ∃ m, m < k ∧ bestI p le k = (m : Int) ∧ p m = true ∧ S g m
  | 0, h, _ => absurd h (Nat.not_lt_zero _)
  | k + 1, h, hk => by
    rcases Nat.lt_succ_iff_lt_or_eq.1 h with h1 | h1
    · obtain ⟨m, h2, h3, h4, h5⟩ := bestI_great hle htr hgn hgp hg hgg k h1 (by omega)
      unfold bestI
      by_cases hc : (p k && (bestI p le k == -1 || le (bestI p le k) k)) = true
      · rw [if_pos hc]
        simp only [Bool.and_eq_true, Bool.or_eq_true, h3] at hc
        refine ⟨k, by omega, rfl, hc.1, ?_⟩
        rcases hc.2 with h6 | h6
        · exact absurd h6 (by simp)
        · exact htr _ _ _ h5 ((hle m k (by omega) (by omega)).1 h6)
      · rw [if_neg hc]
        exact ⟨m, by omega, h3, h4, h5⟩
    · subst h1
      unfold bestI
      have hc : (p g && (bestI p le g == -1 || le (bestI p le g) g)) = true := by
        rw [hgp, Bool.true_and, Bool.or_eq_true]
        rcases bestI_cases p le g with ⟨h2, _⟩ | ⟨m, h2, h3, h4⟩
        · left; rw [h2]; rfl
        · right
          rw [h3]
          exact (hle m g (by omega) hgn).2 (hg m (by omega) h4)
      rw [if_pos hc]
      exact ⟨g, by omega, rfl, hgp, hgg⟩

/-! bits of a relation -/
def bitsN (p : Nat → Bool) : Nat → Nat
  | 0 => 0
  | k + 1 => bitsN p k ||| (if p k then 2 ^ k else 0)
theorem bitsN_bit (p : Nat → Bool) : ∀ k b, (bitsN p k).testBit b = (decide (b < k) && p b)
  | 0, b => by simp [bitsN]
  | k + 1, b => by
    unfold bitsN
    rw [Nat.testBit_or, bitsN_bit p k b]
    by_cases hb : b = k
    · subst hb
      cases hp : p b <;> simp [hp]
    · have h1 : decide (b < k + 1) = decide (b < k) := by
        apply decide_eq_decide.2
        omega
      rw [h1]
      cases hp : p k
      · simp
      · have : Nat.testBit (2 ^ k) b = false := by
          rw [Nat.testBit_two_pow]
          simp [Ne.symm hb]
        simp [this]
theorem bitsN_lt (p : Nat → Bool) (k : Nat) : bitsN p k < 2 ^ k := by
  apply Nat.lt_pow_two_of_testBit
  intro i hi
  rw [bitsN_bit]
  have : decide (i < k) = false := by simpa using hi
  rw [this]
  rfl

/-- What follows of pairs. -/
inductive Reach (p : List (Int × Int)) : Nat → Nat → Prop
  | refl (a : Nat) : Reach p a a
  | step {a b c : Nat} : Reach p a b → ((b : Int), (c : Int)) ∈ p → Reach p a c
theorem Reach.trans {p : List (Int × Int)} {a b c : Nat} (h : Reach p a b) (k : Reach p b c) : Reach p a c := by
  induction k with
  | refl => exact h
  | step _ hm ih => exact .step ih hm
theorem Reach.one {p : List (Int × Int)} {a b : Nat} (h : ((a : Int), (b : Int)) ∈ p) : Reach p a b := .step (.refl a) h
theorem Reach.mono {p q : List (Int × Int)} (h : ∀ a b : Nat, ((a : Int), (b : Int)) ∈ p → Reach q a b) {a b : Nat} (k : Reach p a b) : Reach q a b := by
  induction k with
  | refl => exact .refl _
  | step _ hm ih => exact ih.trans (h _ _ hm)
/-- All pairs' numbers are levels. -/
def InR (n : Nat) (p : List (Int × Int)) : Prop := ∀ x ∈ p, isI n x.1 = true ∧ isI n x.2 = true
theorem Reach.lt {n : Nat} {p : List (Int × Int)} (hp : InR n p) {a b : Nat} (ha : a < n) (k : Reach p a b) : b < n := by
  cases k with
  | refl => exact ha
  | step _ hm =>
    have := (hp _ hm).2
    rw [isI_nat] at this
    simpa using this
def Lub (n : Nat) (R : Nat → Nat → Prop) (a b c : Nat) : Prop := R a c ∧ R b c ∧ ∀ d, d < n → R a d → R b d → R c d
def Glb (n : Nat) (R : Nat → Nat → Prop) (a b c : Nat) : Prop := R c a ∧ R c b ∧ ∀ d, d < n → R d a → R d b → R d c
/-- The pairs make a lattice. -/
structure IsLatt (n : Nat) (p : List (Int × Int)) : Prop where
  anti : ∀ a b, a < n → b < n → Reach p a b → Reach p b a → a = b
  lub : ∀ a b, a < n → b < n → ∃ c, c < n ∧ Lub n (Reach p) a b c
  glb : ∀ a b, a < n → b < n → ∃ c, c < n ∧ Glb n (Reach p) a b c
open Classical in
noncomputable def ru (n : Nat) (p : List (Int × Int)) : U := fun a => if a < n then bitsN (fun b => decide (Reach p a b)) n else 0
theorem ru_bit {n : Nat} {p : List (Int × Int)} {a : Nat} (ha : a < n) (b : Nat) : (ru n p a).testBit b = true ↔ b < n ∧ Reach p a b := by
  unfold ru
  rw [if_pos ha, bitsN_bit]
  simp
theorem ru_lt {n : Nat} (hn : n ≤ 16) (p : List (Int × Int)) (a : Nat) : ru n p a < 65536 := by
  unfold ru
  split
  · exact Nat.lt_of_lt_of_le (bitsN_lt _ _) (Nat.pow_le_pow_right (by omega) hn)
  · omega
theorem leq_ru {n : Nat} {p : List (Int × Int)} {a b : Nat} (ha : a < n) (hb : b < n) : leqI n (ru n p) a b = true ↔ Reach p a b := by
  rw [leqI_nat ha hb, ru_bit ha]
  simp [hb]
theorem ru_congr {n : Nat} {p q : List (Int × Int)} (h : ∀ a b, a < n → b < n → (Reach p a b ↔ Reach q a b)) : ru n p = ru n q := by
  funext a
  by_cases ha : a < n
  · apply Nat.eq_of_testBit_eq
    intro b
    apply Bool.eq_iff_iff.2
    rw [ru_bit ha, ru_bit ha]
    constructor
    · rintro ⟨h1, h2⟩; exact ⟨h1, (h a b ha h1).1 h2⟩
    · rintro ⟨h1, h2⟩; exact ⟨h1, (h a b ha h1).2 h2⟩
  · simp [ru, ha]

theorem and_eq_iff (x y : Nat) : (x &&& y == y) = true ↔ ∀ d, y.testBit d = true → x.testBit d = true := by
  rw [beq_iff_eq]
  constructor
  · intro h d hd
    rw [← h, Nat.testBit_and, Bool.and_eq_true] at hd
    exact hd.1
  · intro h
    apply Nat.eq_of_testBit_eq
    intro d
    rw [Nat.testBit_and]
    cases hy : y.testBit d with
    | false => simp
    | true => simp [h d hy]
section
variable {n : Nat} {p : List (Int × Int)}
theorem lubB_iff {a b c : Nat} (ha : a < n) (hb : b < n) (hc : c < n) : lubB (ru n p) (ru n p a &&& ru n p b) c = true ↔ Lub n (Reach p) a b c := by
  unfold lubB
  rw [Bool.and_eq_true, and_eq_iff, Nat.testBit_and, Bool.and_eq_true, ru_bit ha, ru_bit hb]
  constructor
  · rintro ⟨⟨⟨_, h1⟩, ⟨_, h2⟩⟩, h3⟩
    refine ⟨h1, h2, fun d hd h4 h5 => ?_⟩
    have := h3 d (by rw [Nat.testBit_and, Bool.and_eq_true, ru_bit ha, ru_bit hb]; exact ⟨⟨hd, h4⟩, ⟨hd, h5⟩⟩)
    exact ((ru_bit hc d).1 this).2
  · rintro ⟨h1, h2, h3⟩
    refine ⟨⟨⟨hc, h1⟩, ⟨hc, h2⟩⟩, fun d hd => ?_⟩
    rw [Nat.testBit_and, Bool.and_eq_true, ru_bit ha, ru_bit hb] at hd
    exact (ru_bit hc d).2 ⟨hd.1.1, h3 d hd.1.1 hd.1.2 hd.2.2⟩
theorem join_cases {a b : Nat} (ha : a < n) (hb : b < n) : (∃ c, c < n ∧ joinI n (ru n p) a b = (c : Int) ∧ Lub n (Reach p) a b c) ∨ (joinI n (ru n p) a b = -1 ∧ ¬ ∃ c, c < n ∧ Lub n (Reach p) a b c) := by
  have h0 : joinI n (ru n p) a b = firstI n (lubB (ru n p) (ru n p a &&& ru n p b)) := by
    unfold joinI
    rw [isI_nat, isI_nat]
    simp [ha, hb]
  rw [h0]
  rcases firstI_cases n (lubB (ru n p) (ru n p a &&& ru n p b)) with ⟨i, h1, h2, h3, h4⟩ | ⟨h1, h2⟩
  · exact .inl ⟨i, h1, h4, (lubB_iff ha hb h1).1 h2⟩
  · refine .inr ⟨h2, ?_⟩
    rintro ⟨c, hc, hl⟩
    have := h1 c hc
    rw [(lubB_iff ha hb hc).2 hl] at this
    cases this
theorem low_iff {a b c : Nat} (ha : a < n) (hb : b < n) (hc : c < n) : lowB n (ru n p) a b c = true ↔ Reach p c a ∧ Reach p c b := by
  unfold lowB
  rw [Bool.and_eq_true, leq_ru hc ha, leq_ru hc hb]
theorem meet_cases {a b : Nat} (ha : a < n) (hb : b < n) : (∃ c, c < n ∧ meetI n (ru n p) a b = (c : Int) ∧ Glb n (Reach p) a b c) ∨ (meetI n (ru n p) a b = -1 ∧ ¬ ∃ c, c < n ∧ Glb n (Reach p) a b c) := by
  have h0 : (isI n (a : Int) && isI n (b : Int)) = true := by rw [isI_nat, isI_nat]; simp [ha, hb]
  unfold meetI
  rw [if_pos h0]
  by_cases hall : (List.range n).all (fun c => !lowB n (ru n p) a b c || leqI n (ru n p) c (bestI (lowB n (ru n p) a b) (leqI n (ru n p)) n)) = true
  · rw [if_pos hall]
    have hall' : ∀ c, c < n → Reach p c a → Reach p c b → leqI n (ru n p) c (bestI (lowB n (ru n p) a b) (leqI n (ru n p)) n) = true := fun c hc h1 h2 => by
      have := List.all_eq_true.1 hall c (List.mem_range.2 hc)
      rw [(low_iff ha hb hc).2 ⟨h1, h2⟩] at this
      simpa using this
    rcases bestI_cases (lowB n (ru n p) a b) (leqI n (ru n p)) n with ⟨h1, h2⟩ | ⟨m, h1, h2, h3⟩
    · right
      refine ⟨h1, ?_⟩
      rintro ⟨c, hc, hl⟩
      have := h2 c hc
      rw [(low_iff ha hb hc).2 ⟨hl.1, hl.2.1⟩] at this
      cases this
    · left
      rw [h2] at hall' ⊢
      obtain ⟨h4, h5⟩ := (low_iff ha hb h1).1 h3
      exact ⟨m, h1, rfl, h4, h5, fun d hd h6 h7 => (leq_ru hd h1).1 (hall' d hd h6 h7)⟩
  · right
    rw [if_neg hall]
    refine ⟨rfl, ?_⟩
    rintro ⟨g, hg, h1, h2, h3⟩
    apply hall
    rw [List.all_eq_true]
    intro c hc
    have hc := List.mem_range.1 hc
    obtain ⟨m, h4, h5, h6, h7⟩ := bestI_great (n := n) (p := lowB n (ru n p) a b) (le := leqI n (ru n p)) (S := Reach p) (fun x y hx hy => leq_ru hx hy) (fun _ _ _ => Reach.trans) hg ((low_iff ha hb hg).2 ⟨h1, h2⟩) (fun c hc hcp => by
      obtain ⟨h8, h9⟩ := (low_iff ha hb hc).1 hcp
      exact h3 c hc h8 h9) (.refl g) n hg (Nat.le_refl n)
    rw [h5]
    cases hl : lowB n (ru n p) a b c with
    | false => rfl
    | true =>
      obtain ⟨h8, h9⟩ := (low_iff ha hb hc).1 hl
      simpa using (leq_ru hc h4).2 ((h3 c hc h8 h9).trans h7)

/-! a lattice -/
theorem exists_bot (L : IsLatt n p) (hn : 0 < n) : ∀ k, k ≤ n → ∃ z, z < n ∧ ∀ d, d < k → Reach p z d
  | 0, _ => ⟨0, hn, fun d hd => absurd hd (Nat.not_lt_zero d)⟩
  | k + 1, hk => by
    obtain ⟨z, hz, h⟩ := exists_bot L hn k (by omega)
    obtain ⟨c, hc, h1, h2, _⟩ := L.glb z k hz (by omega)
    refine ⟨c, hc, fun d hd => ?_⟩
    rcases Nat.lt_succ_iff_lt_or_eq.1 hd with h3 | h3
    · exact h1.trans (h d h3)
    · subst h3; exact h2
theorem exists_top (L : IsLatt n p) (hn : 0 < n) : ∀ k, k ≤ n → ∃ z, z < n ∧ ∀ d, d < k → Reach p d z
  | 0, _ => ⟨0, hn, fun d hd => absurd hd (Nat.not_lt_zero d)⟩
  | k + 1, hk => by
    obtain ⟨z, hz, h⟩ := exists_top L hn k (by omega)
    obtain ⟨c, hc, h1, h2, _⟩ := L.lub z k hz (by omega)
    refine ⟨c, hc, fun d hd => ?_⟩
    rcases Nat.lt_succ_iff_lt_or_eq.1 hd with h3 | h3
    · exact (h d h3).trans h1
    · subst h3; exact h2
theorem bot_of {z : Nat} (hz : z < n) (h : ∀ d, d < n → Reach p z d) (anti : ∀ a b, a < n → b < n → Reach p a b → Reach p b a → a = b) : botI n (ru n p) = (z : Int) := by
  obtain ⟨m, h1, h2, _, h3⟩ := bestI_great (n := n) (p := fun _ => true) (le := fun x y => leqI n (ru n p) y x) (S := fun x y => Reach p y x) (fun x y hx hy => leq_ru hy hx) (fun x y w h1 h2 => h2.trans h1) hz rfl (fun c hc _ => h c hc) (.refl z) n hz (Nat.le_refl n)
  unfold botI
  rw [h2, anti m z h1 hz h3 (h m h1)]
theorem top_of {z : Nat} (hz : z < n) (h : ∀ d, d < n → Reach p d z) (anti : ∀ a b, a < n → b < n → Reach p a b → Reach p b a → a = b) : topI n (ru n p) = (z : Int) := by
  obtain ⟨m, h1, h2, _, h3⟩ := bestI_great (n := n) (p := fun _ => true) (le := leqI n (ru n p)) (S := Reach p) (fun x y hx hy => leq_ru hx hy) (fun x y w h1 h2 => h1.trans h2) hz rfl (fun c hc _ => h c hc) (.refl z) n hz (Nat.le_refl n)
  unfold topI
  rw [h2, anti m z h1 hz (h m h1) h3]
/-- A lattice by its two operations. -/
structure Lat2 (n : Nat) (p : List (Int × Int)) (j m : Nat → Nat → Nat) (lo hi : Nat) : Prop where
  anti : ∀ a b, a < n → b < n → Reach p a b → Reach p b a → a = b
  tr : ∀ a b c, Reach p a b → Reach p b c → Reach p a c
  rf : ∀ a, Reach p a a
  jn : ∀ a b, a < n → b < n → j a b < n
  je : ∀ a b, a < n → b < n → joinI n (ru n p) a b = (j a b : Int)
  jl : ∀ a b, a < n → b < n → Reach p a (j a b)
  jr : ∀ a b, a < n → b < n → Reach p b (j a b)
  jm : ∀ a b c, a < n → b < n → c < n → Reach p a c → Reach p b c → Reach p (j a b) c
  mn : ∀ a b, a < n → b < n → m a b < n
  me : ∀ a b, a < n → b < n → meetI n (ru n p) a b = (m a b : Int)
  ml : ∀ a b, a < n → b < n → Reach p (m a b) a
  mr : ∀ a b, a < n → b < n → Reach p (m a b) b
  mm : ∀ a b c, a < n → b < n → c < n → Reach p c a → Reach p c b → Reach p c (m a b)
  lon : lo < n
  hin : hi < n
  loe : botI n (ru n p) = (lo : Int)
  hie : topI n (ru n p) = (hi : Int)
  lol : ∀ a, a < n → Reach p lo a
  hir : ∀ a, a < n → Reach p a hi
theorem IsLatt.two (L : IsLatt n p) (hn : 0 < n) : ∃ j m lo hi, Lat2 n p j m lo hi := by
  have hj : ∀ a b, a < n → b < n → ∃ c, c < n ∧ joinI n (ru n p) a b = (c : Int) ∧ Lub n (Reach p) a b c := fun a b ha hb => by
    rcases join_cases (p := p) ha hb with h | ⟨_, h⟩
    · exact h
    · exact absurd (L.lub a b ha hb) h
  have hm : ∀ a b, a < n → b < n → ∃ c, c < n ∧ meetI n (ru n p) a b = (c : Int) ∧ Glb n (Reach p) a b c := fun a b ha hb => by
    rcases meet_cases (p := p) ha hb with h | ⟨_, h⟩
    · exact h
    · exact absurd (L.glb a b ha hb) h
  obtain ⟨lo, hlo, hlol⟩ := exists_bot L hn n (Nat.le_refl n)
  obtain ⟨hi, hhi, hhir⟩ := exists_top L hn n (Nat.le_refl n)
  have kj : ∀ a b, a < n → b < n → (joinI n (ru n p) a b).toNat < n ∧ joinI n (ru n p) a b = ((joinI n (ru n p) a b).toNat : Int) ∧ Lub n (Reach p) a b (joinI n (ru n p) a b).toNat := fun a b ha hb => by
    obtain ⟨c, h1, h2, h3⟩ := hj a b ha hb
    rw [h2]
    exact ⟨h1, rfl, h3⟩
  have km : ∀ a b, a < n → b < n → (meetI n (ru n p) a b).toNat < n ∧ meetI n (ru n p) a b = ((meetI n (ru n p) a b).toNat : Int) ∧ Glb n (Reach p) a b (meetI n (ru n p) a b).toNat := fun a b ha hb => by
    obtain ⟨c, h1, h2, h3⟩ := hm a b ha hb
    rw [h2]
    exact ⟨h1, rfl, h3⟩
  exact ⟨fun a b => (joinI n (ru n p) a b).toNat, fun a b => (meetI n (ru n p) a b).toNat, lo, hi,
    { anti := L.anti, tr := fun _ _ _ => Reach.trans, rf := Reach.refl
      jn := fun a b ha hb => (kj a b ha hb).1, je := fun a b ha hb => (kj a b ha hb).2.1, jl := fun a b ha hb => (kj a b ha hb).2.2.1, jr := fun a b ha hb => (kj a b ha hb).2.2.2.1
      jm := fun a b c ha hb hc => (kj a b ha hb).2.2.2.2 c hc
      mn := fun a b ha hb => (km a b ha hb).1, me := fun a b ha hb => (km a b ha hb).2.1, ml := fun a b ha hb => (km a b ha hb).2.2.1, mr := fun a b ha hb => (km a b ha hb).2.2.2.1
      mm := fun a b c ha hb hc => (km a b ha hb).2.2.2.2 c hc
      lon := hlo, hin := hhi, loe := bot_of hlo hlol L.anti, hie := top_of hhi hhir L.anti, lol := hlol, hir := hhir }⟩
end
/-- Levels and pairs that are a lattice; all that New asks. -/
def Fine (n : Int) (p : List (Int × Int)) : Prop := 1 ≤ n ∧ n ≤ 16 ∧ InR n.toNat p ∧ IsLatt n.toNat p
def Args (n : Int) (p : List (Int × Int)) : Prop := 1 ≤ n ∧ n ≤ 16 ∧ InR n.toNat p
end Go.Proofs.YtamifocfbcmfkaaDoor.LattP

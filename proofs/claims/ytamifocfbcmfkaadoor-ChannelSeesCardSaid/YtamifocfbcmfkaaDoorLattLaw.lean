/- The laws on levels, with no program in sight. Conditions: none; plain lemmas. -/
import Derived.Test.YtamifocfbcmfkaaDoorLattMem
set_option linter.unusedVariables false
set_option linter.unusedSimpArgs false
namespace Go.Proofs.YtamifocfbcmfkaaDoor.LattP
section
variable {n : Nat} {p : List (Int × Int)} {j m : Nat → Nat → Nat} {lo hi : Nat}
theorem Lat2.jq (L : Lat2 n p j m lo hi) {a b c : Nat} (ha : a < n) (hb : b < n) (hc : c < n) (h1 : Reach p a c) (h2 : Reach p b c) (h3 : ∀ d, d < n → Reach p a d → Reach p b d → Reach p c d) : j a b = c :=
  L.anti _ _ (L.jn a b ha hb) hc (L.jm a b c ha hb hc h1 h2) (h3 _ (L.jn a b ha hb) (L.jl a b ha hb) (L.jr a b ha hb))
theorem Lat2.mq (L : Lat2 n p j m lo hi) {a b c : Nat} (ha : a < n) (hb : b < n) (hc : c < n) (h1 : Reach p c a) (h2 : Reach p c b) (h3 : ∀ d, d < n → Reach p d a → Reach p d b → Reach p d c) : m a b = c :=
  L.anti _ _ (L.mn a b ha hb) hc (h3 _ (L.mn a b ha hb) (L.ml a b ha hb) (L.mr a b ha hb)) (L.mm a b c ha hb hc h1 h2)
theorem Lat2.jc (L : Lat2 n p j m lo hi) {x y : Nat} (hx : x < n) (hy : y < n) : j x y = j y x :=
  L.jq hx hy (L.jn y x hy hx) (L.jr y x hy hx) (L.jl y x hy hx) (fun d hd h1 h2 => L.jm y x d hy hx hd h2 h1)
theorem Lat2.mc (L : Lat2 n p j m lo hi) {x y : Nat} (hx : x < n) (hy : y < n) : m x y = m y x :=
  L.mq hx hy (L.mn y x hy hx) (L.mr y x hy hx) (L.ml y x hy hx) (fun d hd h1 h2 => L.mm y x d hy hx hd h2 h1)
theorem Lat2.ji (L : Lat2 n p j m lo hi) {x : Nat} (hx : x < n) : j x x = x := L.jq hx hx hx (.refl x) (.refl x) (fun _ _ h _ => h)
theorem Lat2.mi (L : Lat2 n p j m lo hi) {x : Nat} (hx : x < n) : m x x = x := L.mq hx hx hx (.refl x) (.refl x) (fun _ _ h _ => h)
theorem Lat2.ja (L : Lat2 n p j m lo hi) {x y z : Nat} (hx : x < n) (hy : y < n) (hz : z < n) : j (j x y) z = j x (j y z) := by
  have h1 := L.jn x y hx hy
  have h2 := L.jn y z hy hz
  refine L.jq h1 hz (L.jn x _ hx h2) (L.jm x y _ hx hy (L.jn x _ hx h2) (L.jl x _ hx h2) ((L.jl y z hy hz).trans (L.jr x _ hx h2))) ((L.jr y z hy hz).trans (L.jr x _ hx h2)) (fun d hd h3 h4 => ?_)
  exact L.jm x _ d hx h2 hd ((L.jl x y hx hy).trans h3) (L.jm y z d hy hz hd ((L.jr x y hx hy).trans h3) h4)
theorem Lat2.ma (L : Lat2 n p j m lo hi) {x y z : Nat} (hx : x < n) (hy : y < n) (hz : z < n) : m (m x y) z = m x (m y z) := by
  have h1 := L.mn x y hx hy
  have h2 := L.mn y z hy hz
  refine L.mq h1 hz (L.mn x _ hx h2) (L.mm x y _ hx hy (L.mn x _ hx h2) (L.ml x _ hx h2) ((L.mr x _ hx h2).trans (L.ml y z hy hz))) ((L.mr x _ hx h2).trans (L.mr y z hy hz)) (fun d hd h3 h4 => ?_)
  exact L.mm x _ d hx h2 hd (h3.trans (L.ml x y hx hy)) (L.mm y z d hy hz hd (h3.trans (L.mr x y hx hy)) h4)
theorem Lat2.jab (L : Lat2 n p j m lo hi) {x y : Nat} (hx : x < n) (hy : y < n) : j x (m x y) = x :=
  L.jq hx (L.mn x y hx hy) hx (.refl x) (L.ml x y hx hy) (fun _ _ h _ => h)
theorem Lat2.mab (L : Lat2 n p j m lo hi) {x y : Nat} (hx : x < n) (hy : y < n) : m x (j x y) = x :=
  L.mq hx (L.jn x y hx hy) hx (.refl x) (L.jl x y hx hy) (fun _ _ h _ => h)
theorem Lat2.lj (L : Lat2 n p j m lo hi) {x y : Nat} (hx : x < n) (hy : y < n) : leqI n (ru n p) x y = (j x y == y) := by
  apply Bool.eq_iff_iff.2
  rw [leq_ru hx hy, beq_iff_eq]
  exact ⟨fun h => L.jq hx hy hy h (.refl y) (fun _ _ _ h => h), fun h => by
    have := L.jl x y hx hy
    rwa [h] at this⟩
theorem Lat2.lm (L : Lat2 n p j m lo hi) {x y : Nat} (hx : x < n) (hy : y < n) : leqI n (ru n p) x y = (m x y == x) := by
  apply Bool.eq_iff_iff.2
  rw [leq_ru hx hy, beq_iff_eq]
  exact ⟨fun h => L.mq hx hy hx (.refl x) h (fun _ _ h _ => h), fun h => by
    have := L.mr x y hx hy
    rwa [h] at this⟩
theorem Lat2.gj (L : Lat2 n p j m lo hi) {x y z : Nat} (hx : x < n) (hy : y < n) (hz : z < n) (h : Reach p x y) : Reach p (j x z) (j y z) :=
  L.jm x z _ hx hz (L.jn y z hy hz) (h.trans (L.jl y z hy hz)) (L.jr y z hy hz)
theorem Lat2.gm (L : Lat2 n p j m lo hi) {x y z : Nat} (hx : x < n) (hy : y < n) (hz : z < n) (h : Reach p x y) : Reach p (m x z) (m y z) :=
  L.mm y z _ hy hz (L.mn x z hx hz) ((L.ml x z hx hz).trans h) (L.mr x z hx hz)
end
/-! tables -/
theorem reach_iff {n : Nat} {p : List (Int × Int)} {d : Nat → Nat → Bool} (hp : InR n p) (rf : ∀ a, a < n → d a a = true) (st : ∀ a b c : Nat, a < n → b < n → c < n → d a b = true → ((b : Int), (c : Int)) ∈ p → d a c = true)
    (sd : ∀ a b, a < n → b < n → d a b = true → Reach p a b) (a b : Nat) (ha : a < n) (hb : b < n) : Reach p a b ↔ d a b = true := by
  refine ⟨fun h => ?_, sd a b ha hb⟩
  induction h with
  | refl => exact rf a ha
  | @step b c k hm ih =>
    have h1 : b < n := k.lt hp ha
    exact st a b c ha h1 hb (ih h1) hm
def lubT (n : Nat) (d : Nat → Nat → Bool) (a b c : Nat) : Bool := d a c && d b c && (List.range n).all fun e => !(d a e && d b e) || d c e
def glbT (n : Nat) (d : Nat → Nat → Bool) (a b c : Nat) : Bool := d c a && d c b && (List.range n).all fun e => !(d e a && d e b) || d e c
def tableB (n : Nat) (d : Nat → Nat → Bool) (j m : Nat → Nat → Nat) : Bool :=
  (List.range n).all fun a => (List.range n).all fun b => (a == b || !(d a b && d b a)) && decide (j a b < n) && lubT n d a b (j a b) && decide (m a b < n) && glbT n d a b (m a b)
theorem lub_of {n : Nat} {p : List (Int × Int)} {d : Nat → Nat → Bool} (h : ∀ a b, a < n → b < n → (Reach p a b ↔ d a b = true)) {a b c : Nat} (ha : a < n) (hb : b < n) (hc : c < n) (hl : lubT n d a b c = true) : Lub n (Reach p) a b c := by
  unfold lubT at hl
  rw [Bool.and_eq_true, Bool.and_eq_true] at hl
  refine ⟨(h a c ha hc).2 hl.1.1, (h b c hb hc).2 hl.1.2, fun e he h1 h2 => ?_⟩
  have := List.all_eq_true.1 hl.2 e (List.mem_range.2 he)
  rw [(h a e ha he).1 h1, (h b e hb he).1 h2] at this
  exact (h c e hc he).2 (by simpa using this)
theorem glb_of {n : Nat} {p : List (Int × Int)} {d : Nat → Nat → Bool} (h : ∀ a b, a < n → b < n → (Reach p a b ↔ d a b = true)) {a b c : Nat} (ha : a < n) (hb : b < n) (hc : c < n) (hl : glbT n d a b c = true) : Glb n (Reach p) a b c := by
  unfold glbT at hl
  rw [Bool.and_eq_true, Bool.and_eq_true] at hl
  refine ⟨(h c a hc ha).2 hl.1.1, (h c b hc hb).2 hl.1.2, fun e he h1 h2 => ?_⟩
  have := List.all_eq_true.1 hl.2 e (List.mem_range.2 he)
  rw [(h e a he ha).1 h1, (h e b he hb).1 h2] at this
  exact (h e c he hc).2 (by simpa using this)
theorem table_lat2 {n : Nat} {p : List (Int × Int)} {d : Nat → Nat → Bool} {j m : Nat → Nat → Nat} (hn : 0 < n) (h : ∀ a b, a < n → b < n → (Reach p a b ↔ d a b = true)) (ht : tableB n d j m = true) :
    IsLatt n p ∧ (∀ a b, a < n → b < n → joinI n (ru n p) a b = (j a b : Int)) ∧ (∀ a b, a < n → b < n → meetI n (ru n p) a b = (m a b : Int)) := by
  have key : ∀ a b, a < n → b < n → (a = b ∨ ¬ (d a b = true ∧ d b a = true)) ∧ j a b < n ∧ Lub n (Reach p) a b (j a b) ∧ m a b < n ∧ Glb n (Reach p) a b (m a b) := fun a b ha hb => by
    have := List.all_eq_true.1 (List.all_eq_true.1 ht a (List.mem_range.2 ha)) b (List.mem_range.2 hb)
    simp only [Bool.and_eq_true, decide_eq_true_eq] at this
    obtain ⟨⟨⟨⟨h1, h2⟩, h3⟩, h4⟩, h5⟩ := this
    refine ⟨?_, h2, lub_of h ha hb h2 h3, h4, glb_of h ha hb h4 h5⟩
    rw [Bool.or_eq_true] at h1
    rcases h1 with h1 | h1
    · exact .inl (by simpa using h1)
    · right
      rintro ⟨h6, h7⟩
      rw [h6, h7] at h1
      cases h1
  have anti : ∀ a b, a < n → b < n → Reach p a b → Reach p b a → a = b := fun a b ha hb h1 h2 => by
    rcases (key a b ha hb).1 with h3 | h3
    · exact h3
    · exact absurd ⟨(h a b ha hb).1 h1, (h b a hb ha).1 h2⟩ h3
  have L : IsLatt n p := ⟨anti, fun a b ha hb => ⟨_, (key a b ha hb).2.1, (key a b ha hb).2.2.1⟩, fun a b ha hb => ⟨_, (key a b ha hb).2.2.2.1, (key a b ha hb).2.2.2.2⟩⟩
  refine ⟨L, fun a b ha hb => ?_, fun a b ha hb => ?_⟩
  · obtain ⟨_, h2, h3, _, _⟩ := key a b ha hb
    rcases join_cases (p := p) ha hb with ⟨c, h6, h7, h8⟩ | ⟨_, h8⟩
    · rw [h7, anti c (j a b) h6 h2 (h8.2.2 _ h2 h3.1 h3.2.1) (h3.2.2 _ h6 h8.1 h8.2.1)]
    · exact absurd ⟨_, h2, h3⟩ h8
  · obtain ⟨_, _, _, h2, h3⟩ := key a b ha hb
    rcases meet_cases (p := p) ha hb with ⟨c, h6, h7, h8⟩ | ⟨_, h8⟩
    · rw [h7, anti c (m a b) h6 h2 (h3.2.2 _ h6 h8.1 h8.2.1) (h8.2.2 _ h2 h3.1 h3.2.1)]
    · exact absurd ⟨_, h2, h3⟩ h8
/-! the document's example -/
def p0 : List (Int × Int) := [(0, 1), (0, 2), (1, 3), (2, 3)]
def d0 (a b : Nat) : Bool := a == b || a == 0 || b == 3
theorem p0_in : InR 4 p0 := by
  intro x hx
  simp only [p0, List.mem_cons, List.not_mem_nil, or_false] at hx
  rcases hx with rfl | rfl | rfl | rfl <;> decide
theorem p0_iff : ∀ a b, a < 4 → b < 4 → (Reach p0 a b ↔ d0 a b = true) := by
  refine reach_iff p0_in (fun a _ => by simp [d0]) ?_ ?_
  · intro a b c ha hb hc hd hm
    simp only [p0, List.mem_cons, List.not_mem_nil, or_false, Prod.mk.injEq] at hm
    simp only [d0, Bool.or_eq_true, beq_iff_eq] at hd ⊢
    omega
  · intro a b ha hb hd
    have e1 : Reach p0 0 1 := .one (by simp [p0])
    have e2 : Reach p0 0 2 := .one (by simp [p0])
    have e3 : Reach p0 1 3 := .one (by simp [p0])
    have e4 : Reach p0 2 3 := .one (by simp [p0])
    simp only [d0, Bool.or_eq_true, beq_iff_eq] at hd
    match a, b, ha, hb with
    | 0, 0, _, _ => exact .refl 0
    | 1, 1, _, _ => exact .refl 1
    | 2, 2, _, _ => exact .refl 2
    | 3, 3, _, _ => exact .refl 3
    | 0, 1, _, _ => exact e1
    | 0, 2, _, _ => exact e2
    | 0, 3, _, _ => exact e1.trans e3
    | 1, 3, _, _ => exact e3
    | 2, 3, _, _ => exact e4
    | 1, 0, _, _ => omega
    | 1, 2, _, _ => omega
    | 2, 0, _, _ => omega
    | 2, 1, _, _ => omega
    | 3, 0, _, _ => omega
    | 3, 1, _, _ => omega
    | 3, 2, _, _ => omega
def j0 (a b : Nat) : Nat := if a = b then a else if a = 0 then b else if b = 0 then a else 3
def m0 (a b : Nat) : Nat := if a = b then a else if a = 3 then b else if b = 3 then a else 0
theorem p0_lat : IsLatt 4 p0 ∧ (∀ a b : Nat, a < 4 → b < 4 → joinI 4 (ru 4 p0) a b = (j0 a b : Int)) ∧ (∀ a b : Nat, a < 4 → b < 4 → meetI 4 (ru 4 p0) a b = (m0 a b : Int)) := table_lat2 (by decide) p0_iff (by decide)
theorem p0_leq : leqI 4 (ru 4 p0) 0 3 = true := (leq_ru (a := 0) (b := 3) (by decide) (by decide)).2 ((p0_iff 0 3 (by decide) (by decide)).2 rfl)
theorem p0_join : joinI 4 (ru 4 p0) 1 2 = 3 := p0_lat.2.1 1 2 (by decide) (by decide)
theorem p0_meet : meetI 4 (ru 4 p0) 1 2 = 0 := p0_lat.2.2 1 2 (by decide) (by decide)
end Go.Proofs.YtamifocfbcmfkaaDoor.LattP

/- A lattice as it lies in memory, and how its bits close. Conditions: none; plain lemmas. -/
import Derived.Test.YtamifocfbcmfkaaDoorEngMore
import Derived.Test.YtamifocfbcmfkaaDoorLattPure
set_option linter.unusedVariables false
set_option linter.unusedSimpArgs false
namespace Go.Proofs.YtamifocfbcmfkaaDoor.LattP
open Go.RowKit Go.Proofs.YtamifocfbcmfkaaDoor.E

def latC (n : Nat) (u : U) : List Value := .int .i64 (n : Int) :: (List.range 16).map fun a => .int .u64 (u a : Int)
def lat (T n : Nat) (u : U) : Obj := .cells (latC n u).toArray T (0, 0)
theorem latC_u {n : Nat} {u : U} {a : Nat} (ha : a < 16) : (latC n u)[0 + 1 + ((a : Int)).toNat * 1]? = some (.int .u64 (u a : Int)) := by
  have : 0 + 1 + ((a : Int)).toNat * 1 = a + 1 := by simp; omega
  rw [this]
  simp [latC, ha]
theorem lat_n {h : Hp} {g T n : Nat} {u : U} (hg : h g = some (lat T n u)) : h.cell ⟨g, 0 + 0, none⟩ = some (.int .i64 (n : Int)) := by
  simp [Hp.cell, hg, lat, latC]
theorem lat_u {h : Hp} {g T n : Nat} {u : U} (hg : h g = some (lat T n u)) {a : Nat} (ha : a < 16) : h.cell ⟨g, 0 + 1 + ((a : Int)).toNat * 1, none⟩ = some (.int .u64 (u a : Int)) := by
  have := latC_u (n := n) (u := u) ha
  simpa [Hp.cell, hg, lat] using this
def upd (u : U) (a x : Nat) : U := fun k => if k = a then x else u k
theorem upd_at (u : U) (a x : Nat) : upd u a x a = x := by simp [upd]
theorem upd_ne (u : U) {a k : Nat} (x : Nat) (h : k ≠ a) : upd u a x k = u k := by simp [upd, h]
theorem lat_st {n : Nat} {u : U} {a x : Nat} (ha : a < 16) : (latC n u).take (0 + 1 + ((a : Int)).toNat * 1) ++ [.int .u64 (x : Int)] ++ (latC n u).drop (0 + 1 + ((a : Int)).toNat * 1 + [Value.int .u64 (x : Int)].length) = latC n (upd u a x) := by
  have h0 : 0 + 1 + ((a : Int)).toNat * 1 = a + 1 := by simp; omega
  rw [h0]
  have hl : (latC n u).length = 17 := by simp [latC]
  apply List.ext_getElem?
  intro j
  rcases Nat.lt_trichotomy j (a + 1) with h1 | h1 | h1
  · rw [List.append_assoc, List.getElem?_append_left (by simp [hl]; omega), List.getElem?_take, if_pos h1]
    cases j with
    | zero => simp [latC]
    | succ j =>
      have : j ≠ a := by omega
      have h2 : j < 16 := by omega
      simp [latC, h2, upd, this]
  · subst h1
    rw [List.getElem?_append_left (by simp [hl]; omega), List.getElem?_append_right (by simp [hl]; omega)]
    have : a + 1 - (List.take (a + 1) (latC n u)).length = 0 := by simp [hl]; omega
    rw [this]
    simp [latC, ha, upd]
  · rw [List.getElem?_append_right (by simp [hl]; omega), List.getElem?_drop]
    have h2 : a + 1 + [Value.int .u64 (x : Int)].length + (j - (List.take (a + 1) (latC n u) ++ [Value.int .u64 (x : Int)]).length) = j := by
      simp [hl]; omega
    rw [h2]
    cases j with
    | zero => omega
    | succ j =>
      have : j ≠ a := by omega
      by_cases h3 : j < 16
      · simp [latC, h3, upd, this]
      · simp [latC, h3]
theorem latC_len {n : Nat} {u : U} : (latC n u).length = 17 := by simp [latC]
theorem shr_lt {x b : Nat} (h : x < 65536) : x >>> b < 18446744073709551616 := by
  rw [Nat.shiftRight_eq_div_pow]
  exact Nat.lt_of_le_of_lt (Nat.div_le_self _ _) (by omega)
theorem and_lt {x y : Nat} (h : x < 65536) : x &&& y < 65536 := Nat.lt_of_le_of_lt Nat.and_le_left h
theorem or_lt {x y : Nat} (h : x < 65536) (k : y < 65536) : x ||| y < 65536 := Nat.or_lt_two_pow (n := 16) h k
theorem two_lt {b : Nat} (h : b < 16) : 2 ^ b < 65536 := Nat.pow_lt_pow_right (n := 16) (by omega) h
theorem cast_beq (x y : Nat) : ((x : Int) == (y : Int)) = (x == y) := by
  by_cases h : x = y
  · simp [h]
  · have : ¬ ((x : Int) = (y : Int)) := by omega
    rw [beq_eq_false_iff_ne.2 h, beq_eq_false_iff_ne.2 this]
theorem cast_bne (x y : Nat) : ((x : Int) != (y : Int)) = (x != y) := by
  unfold bne
  rw [cast_beq]

/-! pairs in memory -/
def PairsAt (h : Hp) (A : Option Addr) (p : List (Int × Int)) : Prop :=
  ∀ j x, p[j]? = some x → ∃ g off, A = some ⟨g, off, none⟩ ∧ h.cell ⟨g, off + j * 2 + 0, none⟩ = some (.int .i64 x.1) ∧ h.cell ⟨g, off + j * 2 + 1, none⟩ = some (.int .i64 x.2)
theorem PairsAt.take {h : Hp} {A : Option Addr} {p : List (Int × Int)} (hp : PairsAt h A p) (k : Nat) : PairsAt h A (p.take k) := fun j x hj => by
  rw [List.getElem?_take] at hj
  split at hj
  · exact hp j x hj
  · cases hj
theorem PairsAt.le {h h' : Hp} {A : Option Addr} {p : List (Int × Int)} (hp : PairsAt h A p) (hl : h.Le h') : PairsAt h' A p := fun j x hj => by
  obtain ⟨g, off, h1, h2, h3⟩ := hp j x hj
  exact ⟨g, off, h1, hl.cell h2, hl.cell h3⟩
theorem PairsAt.get {h : Hp} {g off : Nat} {p : List (Int × Int)} (hp : PairsAt h (some ⟨g, off, none⟩) p) {j : Nat} {x : Int × Int} (hj : p[j]? = some x) :
    ∀ jj v, [Value.int .i64 x.1, Value.int .i64 x.2][jj]? = some v → h.cell ⟨g, off + ((j : Int)).toNat * 2 + jj, none⟩ = some v := fun jj v hv => by
  obtain ⟨g', off', h1, h2, h3⟩ := hp j x hj
  injection h1 with h1
  injection h1 with h1 h1'
  subst h1 h1'
  rw [Int.toNat_natCast]
  match jj, hv with
  | 0, hv =>
    simp only [List.getElem?_cons_zero, Option.some.injEq] at hv
    subst hv
    exact h2
  | 1, hv =>
    simp only [List.getElem?_cons_succ, List.getElem?_cons_zero, Option.some.injEq] at hv
    subst hv
    exact h3
/-- the cells of pairs -/
def pairC (p : List (Int × Int)) : List Value := p.flatMap fun x => [.int .i64 x.1, .int .i64 x.2]
theorem pairC_len (p : List (Int × Int)) : (pairC p).length = p.length * 2 := by
  induction p with
  | nil => rfl
  | cons x p ih =>
    have : pairC (x :: p) = .int .i64 x.1 :: .int .i64 x.2 :: pairC p := rfl
    rw [this]
    simp only [List.length_cons, ih]
    omega
theorem pairC_get : ∀ {p : List (Int × Int)} {j : Nat} {x : Int × Int}, p[j]? = some x → (pairC p)[j * 2]? = some (.int .i64 x.1) ∧ (pairC p)[j * 2 + 1]? = some (.int .i64 x.2)
  | [], j, x, h => by simp at h
  | y :: p, 0, x, h => by
    simp only [List.getElem?_cons_zero, Option.some.injEq] at h
    subst h
    exact ⟨rfl, rfl⟩
  | y :: p, j + 1, x, h => by
    simp only [List.getElem?_cons_succ] at h
    obtain ⟨h1, h2⟩ := pairC_get h
    have : pairC (y :: p) = .int .i64 y.1 :: .int .i64 y.2 :: pairC p := rfl
    rw [this, show (j + 1) * 2 = j * 2 + 1 + 1 by omega, show j * 2 + 1 + 1 + 1 = (j * 2 + 1) + 1 + 1 by omega]
    simp only [List.getElem?_cons_succ]
    exact ⟨h1, h2⟩
theorem pairC_append (p q : List (Int × Int)) : pairC (p ++ q) = pairC p ++ pairC q := List.flatMap_append
theorem pairC_ones (p : List (Int × Int)) : ∀ v ∈ pairC p, v.oneCell' = true := fun v hv => by
  unfold pairC at hv
  rw [List.mem_flatMap] at hv
  obtain ⟨x, _, hx⟩ := hv
  simp only [List.mem_cons, List.not_mem_nil, or_false] at hx
  rcases hx with rfl | rfl <;> rfl
/-- pairs that lie in a block of their own -/
theorem pairs_blk {h : Hp} {g e : Nat} {fr : Nat × Nat} {p : List (Int × Int)} (hg : h g = some (.cells (pairC p).toArray e fr)) : PairsAt h (some ⟨g, 0, none⟩) p := fun j x hj => by
  obtain ⟨h1, h2⟩ := pairC_get hj
  exact ⟨g, 0, rfl, by simp [Hp.cell, hg, h1], by simp [Hp.cell, hg, h2]⟩
theorem pairs_row {h : Hp} {A : Option Addr} {p : List (Int × Int)} (hc : ∀ j u, (pairC p)[j]? = some u → ∃ g, A = some ⟨g, 0, none⟩ ∧ h.cell ⟨g, j, none⟩ = some u) : PairsAt h A p := fun j x hj => by
  obtain ⟨h1, h2⟩ := pairC_get hj
  obtain ⟨g, h3, h4⟩ := hc _ _ h1
  obtain ⟨g', h5, h6⟩ := hc _ _ h2
  rw [h3] at h5
  injection h5 with h5
  injection h5 with h5
  subst h5
  exact ⟨g, 0, h3, by simpa using h4, by simpa using h6⟩
theorem PairsAt.cells {h : Hp} {A : Option Addr} {p : List (Int × Int)} (hp : PairsAt h A p) : ∀ j u, (pairC p)[j]? = some u → ∃ ad : Addr, A = some ad ∧ h.cell (ad.add j) = some u := fun j u hj => by
  have hlt : j < p.length * 2 := by
    have := (List.getElem?_eq_some_iff.1 hj).1
    rwa [pairC_len] at this
  obtain ⟨x, hx⟩ : ∃ x, p[j / 2]? = some x := ⟨_, List.getElem?_eq_getElem (by omega)⟩
  obtain ⟨h1, h2⟩ := pairC_get hx
  obtain ⟨g, off, h3, h4, h5⟩ := hp _ _ hx
  refine ⟨_, h3, ?_⟩
  rw [Addr.add_at]
  rcases Nat.mod_two_eq_zero_or_one j with h6 | h6
  · have h7 : j / 2 * 2 = j := by omega
    rw [h7] at h1 h4
    rw [h1] at hj
    injection hj with hj
    subst hj
    exact h4
  · have h7 : j / 2 * 2 + 1 = j := by omega
    rw [h7] at h2
    rw [h2] at hj
    injection hj with hj
    subst hj
    rw [show off + j = off + j / 2 * 2 + 1 by omega]
    exact h5

/-! what the walks meet -/
theorem lubB_T {u : U} {both c : Nat} (h1 : (((both >>> c &&& 1 : Nat) : Int) == 1) = true) (h2 : (((u c &&& both : Nat) : Int) == (both : Int)) = true) : lubB u both c = true := by
  rw [bit1] at h1
  rw [cast_beq] at h2
  unfold lubB
  rw [h1, h2]
  rfl
theorem lubB_F1 {u : U} {both c : Nat} (h1 : (((both >>> c &&& 1 : Nat) : Int) == 1) = false) : lubB u both c = false := by
  rw [bit1] at h1
  unfold lubB
  rw [h1]
  rfl
theorem lubB_F2 {u : U} {both c : Nat} (h2 : (((u c &&& both : Nat) : Int) == (both : Int)) = false) : lubB u both c = false := by
  rw [cast_beq] at h2
  unfold lubB
  rw [h2, Bool.and_false]
theorem join_out {n : Nat} {u : U} {a b : Int} (h : (isI n a && isI n b) = false) : joinI n u a b = -1 := by
  unfold joinI
  rw [h]
  rfl
theorem meet_out {n : Nat} {u : U} {a b : Int} (h : (isI n a && isI n b) = false) : meetI n u a b = -1 := by
  unfold meetI
  rw [h]
  rfl
theorem join_nat {n : Nat} {u : U} {a b : Nat} (ha : a < n) (hb : b < n) : joinI n u a b = firstI n (lubB u (u a &&& u b)) := by
  unfold joinI
  rw [isI_nat, isI_nat]
  simp [ha, hb]
theorem join_at {n : Nat} {u : U} {a b i : Nat} (ha : a < n) (hb : b < n) (hi : i < n) (h1 : lubB u (u a &&& u b) i = true) (h2 : ∀ c, c < i → lubB u (u a &&& u b) c = false) : joinI n u a b = (i : Int) := by
  rw [join_nat ha hb, firstI_at hi h1 h2]
theorem join_none {n : Nat} {u : U} {a b : Nat} (ha : a < n) (hb : b < n) (h2 : ∀ c, c < n → lubB u (u a &&& u b) c = false) : joinI n u a b = -1 := by
  rw [join_nat ha hb, firstI_none h2]
theorem best_yes {n : Nat} {u : U} {a b : Int} {i : Nat} (h1 : leqI n u i a = true) (h2 : leqI n u i b = true) (h3 : (bestI (lowB n u a b) (leqI n u) i == -1) = true ∨ leqI n u (bestI (lowB n u a b) (leqI n u) i) i = true) : bestI (lowB n u a b) (leqI n u) (i + 1) = (i : Int) := by
  have h4 : lowB n u a b i = true := by unfold lowB; rw [h1, h2]; rfl
  rw [bestI, h4, Bool.true_and, if_pos]
  rw [Bool.or_eq_true]
  exact h3
theorem best_no3 {n : Nat} {u : U} {a b : Int} {i : Nat} (h1 : leqI n u i a = true) (h2 : leqI n u i b = true) (h3 : (bestI (lowB n u a b) (leqI n u) i == -1) = false) (h4 : leqI n u (bestI (lowB n u a b) (leqI n u) i) i = false) : bestI (lowB n u a b) (leqI n u) (i + 1) = bestI (lowB n u a b) (leqI n u) i := by
  rw [bestI, h3, h4, Bool.or_false, Bool.and_false]
  rfl
theorem best_no2 {n : Nat} {u : U} {a b : Int} {i : Nat} (h1 : leqI n u i a = true) (h2 : leqI n u i b = false) : bestI (lowB n u a b) (leqI n u) (i + 1) = bestI (lowB n u a b) (leqI n u) i := by
  have h4 : lowB n u a b i = false := by unfold lowB; rw [h2, Bool.and_false]
  rw [bestI, h4]
  rfl
theorem best_no1 {n : Nat} {u : U} {a b : Int} {i : Nat} (h1 : leqI n u i a = false) : bestI (lowB n u a b) (leqI n u) (i + 1) = bestI (lowB n u a b) (leqI n u) i := by
  have h4 : lowB n u a b i = false := by unfold lowB; rw [h1]; rfl
  rw [bestI, h4]
  rfl
theorem best_t {le : Int → Int → Bool} {i : Nat} (h3 : (bestI (fun _ => true) le i == -1) = true ∨ le (bestI (fun _ => true) le i) i = true) : bestI (fun _ => true) le (i + 1) = (i : Int) := by
  rw [bestI, Bool.true_and, if_pos]
  rw [Bool.or_eq_true]
  exact h3
theorem best_f {le : Int → Int → Bool} {i : Nat} (h3 : (bestI (fun _ => true) le i == -1) = false) (h4 : le (bestI (fun _ => true) le i) i = false) : bestI (fun _ => true) le (i + 1) = bestI (fun _ => true) le i := by
  rw [bestI, h3, h4]
  rfl
theorem hold1 {n : Nat} {u : U} {a b x : Int} {i : Nat} (h1 : leqI n u i a = false) : (!lowB n u a b i || leqI n u i x) = true := by
  unfold lowB; rw [h1]; rfl
theorem hold2 {n : Nat} {u : U} {a b x : Int} {i : Nat} (h1 : leqI n u i a = true) (h2 : leqI n u i b = false) : (!lowB n u a b i || leqI n u i x) = true := by
  unfold lowB; rw [h1, h2]; rfl
theorem hold3 {n : Nat} {u : U} {a b x : Int} {i : Nat} (h1 : leqI n u i a = true) (h2 : leqI n u i b = true) (h3 : (!leqI n u i x) = false) : (!lowB n u a b i || leqI n u i x) = true := by
  have : leqI n u i x = true := by simpa using h3
  rw [this, Bool.or_true]
theorem meet_fine {n : Nat} {u : U} {a b : Int} (ha : isI n a = true) (hb : isI n b = true) (h : ∀ c, c < n → (!lowB n u a b c || leqI n u c (bestI (lowB n u a b) (leqI n u) n)) = true) : meetI n u a b = bestI (lowB n u a b) (leqI n u) n := by
  unfold meetI
  rw [ha, hb, if_pos (show (true && true) = true from rfl), if_pos (List.all_eq_true.2 fun c hc => h c (List.mem_range.1 hc))]
theorem meet_bad {n : Nat} {u : U} {a b : Int} {i : Nat} (ha : isI n a = true) (hb : isI n b = true) (hi : i < n) (h1 : leqI n u i a = true) (h2 : leqI n u i b = true) (h3 : (!leqI n u i (bestI (lowB n u a b) (leqI n u) n)) = true) : meetI n u a b = -1 := by
  unfold meetI
  rw [ha, hb, if_pos (show (true && true) = true from rfl), if_neg]
  intro hall
  have := List.all_eq_true.1 hall i (List.mem_range.2 hi)
  have h4 : leqI n u i (bestI (lowB n u a b) (leqI n u) n) = false := by simpa using h3
  rw [h4] at this
  unfold lowB at this
  rw [h1, h2] at this
  cases this

/-! the bits as they close -/
structure PreC (n : Nat) (p : List (Int × Int)) (u : U) : Prop where
  lt : ∀ a, u a < 65536
  out : ∀ a, n ≤ a → u a = 0
  sub : ∀ a, a < n → ∀ b, (u a).testBit b = true → b < n ∧ Reach p a b
  has : ∀ a, a < n → (u a).testBit a = true
  one : ∀ a b : Nat, ((a : Int), (b : Int)) ∈ p → (u a).testBit b = true
def msr (u : U) : Nat → Nat
  | 0 => 0
  | k + 1 => msr u k + (65536 - u k)
theorem msr_same (u : U) {a x : Nat} : ∀ k, k ≤ a → msr (upd u a x) k = msr u k
  | 0, _ => rfl
  | k + 1, h => by
    unfold msr
    rw [msr_same u k (by omega), upd_ne u x (by omega)]
theorem msr_lt {u : U} {a x : Nat} (hx : u a < x) (hx2 : x < 65536) : ∀ k, a < k → msr (upd u a x) k < msr u k
  | 0, h => absurd h (Nat.not_lt_zero _)
  | k + 1, h => by
    unfold msr
    rcases Nat.lt_succ_iff_lt_or_eq.1 h with h1 | h1
    · have := msr_lt hx hx2 k h1
      rw [upd_ne u x (by omega)]
      omega
    · subst h1
      rw [msr_same u a (Nat.le_refl a), upd_at]
      omega
theorem or_gt {x y : Nat} (h : x ||| y ≠ x) : x < x ||| y := Nat.lt_of_le_of_ne Nat.left_le_or (Ne.symm h)
theorem PreC.start {n : Nat} (hn : n ≤ 16) : PreC n [] (fun a => if a < n then 2 ^ a else 0) where
  lt := fun a => by
    split
    · exact two_lt (by omega)
    · omega
  out := fun a ha => by rw [if_neg (by omega)]
  sub := fun a ha b hb => by
    rw [if_pos ha, Nat.testBit_two_pow] at hb
    have : a = b := by simpa using hb
    subst this
    exact ⟨ha, .refl a⟩
  has := fun a ha => by rw [if_pos ha, Nat.testBit_two_pow]; simp
  one := fun a b h => by simp at h
theorem PreC.pair {n : Nat} {p : List (Int × Int)} {u : U} (h : PreC n p u) (hn : n ≤ 16) {x y : Nat} (hx : x < n) (hy : y < n) : PreC n (p ++ [((x : Int), (y : Int))]) (upd u x (u x ||| 2 ^ y)) where
  lt := fun a => by
    by_cases e : a = x
    · subst e; rw [upd_at]; exact or_lt (h.lt a) (two_lt (by omega))
    · rw [upd_ne u _ e]; exact h.lt a
  out := fun a ha => by rw [upd_ne u _ (by omega)]; exact h.out a ha
  sub := fun a ha b hb => by
    have hm : ∀ {a b}, Reach p a b → Reach (p ++ [((x : Int), (y : Int))]) a b := fun k => k.mono fun a b hab => .one (List.mem_append_left _ hab)
    by_cases e : a = x
    · subst e
      rw [upd_at, Nat.testBit_or, Nat.testBit_two_pow, Bool.or_eq_true] at hb
      rcases hb with hb | hb
      · exact ⟨(h.sub a ha b hb).1, hm (h.sub a ha b hb).2⟩
      · have : y = b := by simpa using hb
        subst this
        exact ⟨hy, .one (by simp)⟩
    · rw [upd_ne u _ e] at hb
      exact ⟨(h.sub a ha b hb).1, hm (h.sub a ha b hb).2⟩
  has := fun a ha => by
    by_cases e : a = x
    · subst e; rw [upd_at, Nat.testBit_or, h.has a ha]; rfl
    · rw [upd_ne u _ e]; exact h.has a ha
  one := fun a b hab => by
    rcases List.mem_append.1 hab with h3 | h3
    · by_cases e : a = x
      · subst e; rw [upd_at, Nat.testBit_or, h.one a b h3]; rfl
      · rw [upd_ne u _ e]; exact h.one a b h3
    · simp only [List.mem_singleton, Prod.mk.injEq] at h3
      have e1 : a = x := by omega
      have e2 : b = y := by omega
      subst e1 e2
      rw [upd_at, Nat.testBit_or, Nat.testBit_two_pow]
      simp
theorem PreC.more {n : Nat} {p : List (Int × Int)} {u : U} (h : PreC n p u) {a b : Nat} (ha : a < n) (hb : b < n) (hab : (u a).testBit b = true) : PreC n p (upd u a (u a ||| u b)) where
  lt := fun c => by
    by_cases e : c = a
    · subst e; rw [upd_at]; exact or_lt (h.lt c) (h.lt b)
    · rw [upd_ne u _ e]; exact h.lt c
  out := fun c hc => by rw [upd_ne u _ (by omega)]; exact h.out c hc
  sub := fun c hc d hd => by
    by_cases e : c = a
    · subst e
      rw [upd_at, Nat.testBit_or, Bool.or_eq_true] at hd
      rcases hd with hd | hd
      · exact h.sub c hc d hd
      · exact ⟨(h.sub b hb d hd).1, (h.sub c hc b hab).2.trans (h.sub b hb d hd).2⟩
    · rw [upd_ne u _ e] at hd
      exact h.sub c hc d hd
  has := fun c hc => by
    by_cases e : c = a
    · subst e; rw [upd_at, Nat.testBit_or, h.has c hc]; rfl
    · rw [upd_ne u _ e]; exact h.has c hc
  one := fun c d hcd => by
    by_cases e : c = a
    · subst e; rw [upd_at, Nat.testBit_or, h.one c d hcd]; rfl
    · rw [upd_ne u _ e]; exact h.one c d hcd
/-- nothing more follows -/
def shutB (u : U) (a b : Nat) : Prop := (u a).testBit b = true → u a ||| u b = u a
theorem shut_same {u : U} {a b : Nat} (h : (((u a ||| u b : Nat) : Int) != (u a : Int)) = false) : shutB u a b := fun _ => by
  rw [cast_bne] at h
  simpa using h
theorem shut_not {u : U} {a b : Nat} (h : (((u a >>> b &&& 1 : Nat) : Int) == 1) = false) : shutB u a b := fun k => by
  rw [bit1] at h
  rw [h] at k
  cases k
theorem PreC.shut {n : Nat} {p : List (Int × Int)} {u : U} (h : PreC n p u) (hp : InR n p) (hs : ∀ a, a < n → ∀ b, b < n → shutB u a b) : u = ru n p := by
  have key : ∀ a b, a < n → Reach p a b → (u a).testBit b = true := fun a b ha k => by
    induction k with
    | refl => exact h.has a ha
    | @step b c k hm ih =>
      have hb : b < n := k.lt hp ha
      have h1 := hs a ha b hb ih
      rw [← h1, Nat.testBit_or, h.one b c hm, Bool.or_true]
  funext a
  by_cases ha : a < n
  · apply Nat.eq_of_testBit_eq
    intro b
    apply Bool.eq_iff_iff.2
    rw [ru_bit ha]
    exact ⟨h.sub a ha b, fun k => key a b ha k.2⟩
  · rw [h.out a (by omega)]
    simp [ru, ha]
/-! what New asks of two levels -/
def okB (n : Nat) (u : U) (a b : Nat) : Bool := !((a : Int) != (b : Int) && leqI n u a b && leqI n u b a) && !(joinI n u a b == -1) && !(meetI n u a b == -1)
theorem ok_latt {n : Nat} {p : List (Int × Int)} (h : ∀ a, a < n → ∀ b, b < n → okB n (ru n p) a b = true) : IsLatt n p where
  anti := fun a b ha hb h1 h2 => by
    have := h a ha b hb
    unfold okB at this
    rw [(leq_ru ha hb).2 h1, (leq_ru hb ha).2 h2, cast_bne] at this
    by_cases e : a = b
    · exact e
    · have e' : (a != b) = true := by simpa using e
      rw [e'] at this
      simp at this
  lub := fun a b ha hb => by
    have := h a ha b hb
    unfold okB at this
    rcases join_cases (p := p) ha hb with ⟨c, h1, h2, h3⟩ | ⟨h1, h2⟩
    · exact ⟨c, h1, h3⟩
    · rw [h1] at this
      simp at this
  glb := fun a b ha hb => by
    have := h a ha b hb
    unfold okB at this
    rcases meet_cases (p := p) ha hb with ⟨c, h1, h2, h3⟩ | ⟨h1, h2⟩
    · exact ⟨c, h1, h3⟩
    · rw [h1] at this
      simp at this
theorem not_latt {n : Nat} {p : List (Int × Int)} {a b : Nat} (ha : a < n) (hb : b < n) (h : okB n (ru n p) a b = false) : ¬ IsLatt n p := fun L => by
  have : okB n (ru n p) a b = true := by
    unfold okB
    simp only [Bool.and_eq_true, Bool.not_eq_true', Bool.and_eq_false_iff, beq_eq_false_iff_ne]
    refine ⟨⟨?_, ?_⟩, ?_⟩
    · by_cases h1 : Reach p a b
      · by_cases h2 : Reach p b a
        · have := L.anti a b ha hb h1 h2
          subst this
          left; left
          simp
        · right
          cases hl : leqI n (ru n p) b a with
          | false => rfl
          | true => exact absurd ((leq_ru hb ha).1 hl) h2
      · left; right
        cases hl : leqI n (ru n p) a b with
        | false => rfl
        | true => exact absurd ((leq_ru ha hb).1 hl) h1
    · rcases join_cases (p := p) ha hb with ⟨c, h1, h2, h3⟩ | ⟨h1, h2⟩
      · rw [h2]; omega
      · exact absurd (L.lub a b ha hb) h2
    · rcases meet_cases (p := p) ha hb with ⟨c, h1, h2, h3⟩ | ⟨h1, h2⟩
      · rw [h2]; omega
      · exact absurd (L.glb a b ha hb) h2
  rw [h] at this
  cases this
theorem ok_yes {n : Nat} {u : U} {a b : Nat} (h1 : ((a : Int) != (b : Int)) = false ∨ leqI n u a b = false ∨ leqI n u b a = false) (h2 : (joinI n u a b == -1) = false) (h3 : (meetI n u a b == -1) = false) : okB n u a b = true := by
  unfold okB
  rw [h2, h3]
  rcases h1 with h1 | h1 | h1 <;> rw [h1] <;> simp
theorem ok_bad1 {n : Nat} {u : U} {a b : Nat} (h1 : ((a : Int) != (b : Int)) = true) (h2 : leqI n u a b = true) (h3 : leqI n u b a = true) : okB n u a b = false := by
  unfold okB
  rw [h1, h2, h3]
  rfl
theorem ok_bad2 {n : Nat} {u : U} {a b : Nat} (h1 : (joinI n u a b == -1) = true) : okB n u a b = false := by
  unfold okB
  rw [h1]
  simp
theorem ok_bad3 {n : Nat} {u : U} {a b : Nat} (h1 : (meetI n u a b == -1) = true) : okB n u a b = false := by
  unfold okB
  rw [h1]
  simp
theorem upd_pow (i : Nat) : upd (fun a => if a < i then 2 ^ a else 0) i (2 ^ i) = fun a => if a < i + 1 then 2 ^ a else 0 := by
  funext a
  unfold upd
  by_cases h : a = i
  · subst h; simp
  · rw [if_neg h]
    show (if a < i then 2 ^ a else 0) = _
    by_cases h2 : a < i
    · rw [if_pos h2, if_pos (by omega)]
    · rw [if_neg h2, if_neg (by omega)]
theorem take_snoc {α : Type} {p : List α} {j : Nat} {x : α} (h : p[j]? = some x) : p.take (j + 1) = p.take j ++ [x] := by
  rw [List.take_add_one, h]
  rfl
theorem InR.snoc {n : Nat} {p : List (Int × Int)} (h : InR n p) {x : Int × Int} (h1 : isI n x.1 = true) (h2 : isI n x.2 = true) : InR n (p ++ [x]) := fun y hy => by
  rcases List.mem_append.1 hy with hy | hy
  · exact h y hy
  · simp only [List.mem_singleton] at hy
    subst hy
    exact ⟨h1, h2⟩
/-- what New returns -/
def NewR (T : Nat) (n : Int) (p : List (Int × Int)) (x : Option Nat × Int) (h : Hp) : Prop :=
  (∃ g, x = (some g, 0) ∧ Fine n p ∧ h g = some (lat T n.toNat (ru n.toNat p))) ∨ (x = (none, 1) ∧ ¬ Args n p) ∨ (x = (none, 4) ∧ Args n p ∧ ¬ IsLatt n.toNat p)
def newV (x : Option Nat × Int) : Value := .tuple #[.pointer (x.1.map fun g => ⟨g, 0, none⟩), .int .i64 x.2]
end Go.Proofs.YtamifocfbcmfkaaDoor.LattP

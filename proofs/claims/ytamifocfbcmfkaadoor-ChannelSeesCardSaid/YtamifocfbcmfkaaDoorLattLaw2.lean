/- More of the plain law on levels: pairs that say nothing new, chains, sets, ends. Conditions: none; plain lemmas. -/
import Derived.Test.YtamifocfbcmfkaaDoorLattLaw
set_option linter.unusedVariables false
set_option linter.unusedSimpArgs false
namespace Go.Proofs.YtamifocfbcmfkaaDoor.LattP
open Go.RowKit Go.Proofs.YtamifocfbcmfkaaDoor.E
theorem reach_same {p q : List (Int × Int)} (h1 : ∀ a b : Nat, ((a : Int), (b : Int)) ∈ p → Reach q a b) (h2 : ∀ a b : Nat, ((a : Int), (b : Int)) ∈ q → Reach p a b) : Reach p = Reach q := by
  funext a b
  exact propext ⟨fun h => h.mono h1, fun h => h.mono h2⟩
theorem latt_congr {n : Nat} {p q : List (Int × Int)} (h : Reach p = Reach q) (L : IsLatt n q) : IsLatt n p where
  anti := by rw [h]; exact L.anti
  lub := by rw [h]; exact L.lub
  glb := by rw [h]; exact L.glb
theorem PairsAt.none {h : Hp} {A : Option Addr} {p : List (Int × Int)} (hp : PairsAt h A p) (hA : A = none) : p.length = 0 := by
  cases p with
  | nil => rfl
  | cons x p =>
    obtain ⟨g, off, h1, _⟩ := hp 0 x rfl
    rw [hA] at h1
    cases h1
/-! twice, and back -/
def bk (q : List (Int × Int)) (k : Nat) : List (Int × Int) := (q.reverse.take k).flatMap fun x => [x, x]
theorem dbl_len : ∀ l : List (Int × Int), (l.flatMap fun x => [x, x]).length = 2 * l.length
  | [] => rfl
  | x :: l => by
    have : ((x :: l).flatMap fun x => [x, x]) = x :: x :: (l.flatMap fun x => [x, x]) := rfl
    rw [this]
    simp only [List.length_cons, dbl_len l]
    omega
theorem bk_len {q : List (Int × Int)} {k : Nat} (hk : k ≤ q.length) : (bk q k).length = 2 * k := by
  unfold bk
  rw [dbl_len, List.length_take, List.length_reverse, Nat.min_eq_left hk]
theorem bk_succ {q : List (Int × Int)} {k : Nat} {x : Int × Int} (hk : k < q.length) (h : q[q.length - 1 - k]? = some x) : bk q (k + 1) = bk q k ++ [x, x] := by
  unfold bk
  have : q.reverse[k]? = some x := by rw [List.getElem?_reverse hk]; exact h
  rw [take_snoc this, List.flatMap_append]
  rfl
theorem bk_mem {q : List (Int × Int)} {k : Nat} {x : Int × Int} (h : x ∈ bk q k) : x ∈ q := by
  unfold bk at h
  rw [List.mem_flatMap] at h
  obtain ⟨y, h1, h2⟩ := h
  have : x = y := by simpa using h2
  subst this
  exact List.mem_reverse.1 (List.mem_of_mem_take h1)
theorem bk_all {q : List (Int × Int)} {x : Int × Int} (h : x ∈ q) : x ∈ bk q q.length := by
  unfold bk
  rw [List.mem_flatMap]
  exact ⟨x, by rw [← List.length_reverse, List.take_length]; exact List.mem_reverse.2 h, by simp⟩
theorem bk_fine {n : Nat} {q : List (Int × Int)} {j m : Nat → Nat → Nat} {lo hi : Nat} (hF : Fine (n : Int) q) (L : Lat2 n q j m lo hi) {x y : Nat} (hx : x < n) (hy : y < n) :
    Fine (n : Int) (bk q q.length ++ [((m x y : Int), (j x y : Int)), ((x : Int), (x : Int))]) ∧ ru n (bk q q.length ++ [((m x y : Int), (j x y : Int)), ((x : Int), (x : Int))]) = ru n q := by
  have hR : Reach (bk q q.length ++ [((m x y : Int), (j x y : Int)), ((x : Int), (x : Int))]) = Reach q := by
    refine reach_same (fun a b h => ?_) (fun a b h => .one (List.mem_append_left _ (bk_all h)))
    rcases List.mem_append.1 h with h | h
    · exact .one (bk_mem h)
    · simp only [List.mem_cons, List.not_mem_nil, or_false, Prod.mk.injEq] at h
      rcases h with ⟨h1, h2⟩ | ⟨h1, h2⟩
      · have e1 : a = m x y := by omega
        have e2 : b = j x y := by omega
        subst e1 e2
        exact (L.ml x y hx hy).trans (L.jl x y hx hy)
      · have e1 : a = b := by omega
        subst e1
        exact .refl a
  refine ⟨⟨hF.1, hF.2.1, fun z hz => ?_, latt_congr hR hF.2.2.2⟩, ru_congr fun a b _ _ => by rw [hR]⟩
  rw [Int.toNat_natCast]
  rcases List.mem_append.1 hz with h | h
  · have := hF.2.2.1 z (bk_mem h)
    rwa [Int.toNat_natCast] at this
  · simp only [List.mem_cons, List.not_mem_nil, or_false] at h
    rcases h with rfl | rfl
    · exact ⟨by rw [isI_nat]; simpa using L.mn x y hx hy, by rw [isI_nat]; simpa using L.jn x y hx hy⟩
    · exact ⟨by rw [isI_nat]; simpa using hx, by rw [isI_nat]; simpa using hx⟩
/-! chains -/
def ch (k : Nat) : List (Int × Int) := (List.range k).map fun (i : Nat) => ((i : Int), ((i + 1 : Nat) : Int))
theorem ch_succ (k : Nat) : ch (k + 1) = ch k ++ [((k : Int), ((k + 1 : Nat) : Int))] := by
  unfold ch
  rw [List.range_succ, List.map_append]
  rfl
theorem ch_len (k : Nat) : (ch k).length = k := by simp [ch]
theorem ch_mem {k : Nat} {x : Int × Int} : x ∈ ch k ↔ ∃ i : Nat, i < k ∧ x = ((i : Int), ((i + 1 : Nat) : Int)) := by
  unfold ch
  rw [List.mem_map]
  constructor
  · rintro ⟨i, h1, rfl⟩
    exact ⟨i, List.mem_range.1 h1, rfl⟩
  · rintro ⟨i, h1, rfl⟩
    exact ⟨i, List.mem_range.2 h1, rfl⟩
theorem ch_in {k : Nat} (hk : 1 ≤ k) : InR k (ch (k - 1)) := fun x hx => by
  obtain ⟨i, h1, rfl⟩ := ch_mem.1 hx
  exact ⟨by rw [isI_nat]; simp; omega, by rw [isI_nat]; simp; omega⟩
def dle (a b : Nat) : Bool := decide (a ≤ b)
theorem ch_up {k a : Nat} : ∀ b, a ≤ b → b < k → Reach (ch (k - 1)) a b
  | 0, h, _ => by
    have : a = 0 := by omega
    subst this
    exact .refl _
  | b + 1, h, hb => by
    by_cases e : a = b + 1
    · subst e; exact .refl _
    · exact .step (ch_up b (by omega) (by omega)) (ch_mem.2 ⟨b, by omega, rfl⟩)
theorem ch_iff {k : Nat} (hk : 1 ≤ k) : ∀ a b, a < k → b < k → (Reach (ch (k - 1)) a b ↔ dle a b = true) := by
  refine reach_iff (ch_in hk) (fun a _ => by simp [dle]) ?_ (fun a b _ hb h => ch_up b (by simpa [dle] using h) hb)
  intro a b c ha hb hc hd hm
  obtain ⟨i, h1, h2⟩ := ch_mem.1 hm
  simp only [Prod.mk.injEq] at h2
  simp only [dle, decide_eq_true_eq] at hd ⊢
  omega
theorem ch_tab : ∀ k, k < 17 → tableB k dle (fun a b => if b > a then b else a) (fun a b => if b < a then b else a) = true := by decide +kernel
theorem ch_lat {k : Nat} (hk : 1 ≤ k) (hk2 : k ≤ 16) : IsLatt k (ch (k - 1)) ∧ (∀ a b : Nat, a < k → b < k → joinI k (ru k (ch (k - 1))) a b = ((if b > a then b else a : Nat) : Int)) ∧ (∀ a b : Nat, a < k → b < k → meetI k (ru k (ch (k - 1))) a b = ((if b < a then b else a : Nat) : Int)) := table_lat2 (p := ch (k - 1)) hk (ch_iff hk) (ch_tab k (by omega))
theorem ch_fine {k : Nat} (hk : 1 ≤ k) (hk2 : k ≤ 16) : Fine (k : Int) (ch (k - 1)) := ⟨by omega, by omega, ch_in hk, (ch_lat hk hk2).1⟩
theorem ch_leq {k a b : Nat} (hk : 1 ≤ k) (ha : a < k) (hb : b < k) : leqI k (ru k (ch (k - 1))) a b = decide ((a : Int) ≤ (b : Int)) := by
  apply Bool.eq_iff_iff.2
  rw [leq_ru ha hb, ch_iff hk a b ha hb]
  simp only [dle, decide_eq_true_eq]
  omega
theorem ch_bot {k : Nat} (hk : 1 ≤ k) (hk2 : k ≤ 16) : botI k (ru k (ch (k - 1))) = 0 :=
  bot_of (z := 0) hk (fun d hd => ch_up d (Nat.zero_le d) hd) (ch_lat hk hk2).1.anti
theorem ch_top {k : Nat} (hk : 1 ≤ k) (hk2 : k ≤ 16) : topI k (ru k (ch (k - 1))) = ((k - 1 : Nat) : Int) :=
  top_of (z := k - 1) (by omega) (fun d hd => ch_up (k - 1) (by omega) (by omega)) (ch_lat hk hk2).1.anti
/-- turned round -/
def chr (k : Nat) : List (Int × Int) := ch (k - 1) ++ [(((k - 1 : Nat) : Int), ((0 : Nat) : Int))]
theorem chr_in {k : Nat} (hk : 1 ≤ k) : InR k (chr k) := (ch_in hk).snoc (by rw [isI_nat]; simp; omega) (by rw [isI_nat]; simp; omega)
theorem chr_args {k : Nat} (hk : 1 ≤ k) (hk2 : k ≤ 16) : Args (k : Int) (chr k) := ⟨by omega, by omega, chr_in hk⟩
theorem chr_no {k : Nat} (hk : 1 < k) : ¬ IsLatt k (chr k) := fun L => by
  have h1 : Reach (chr k) 0 (k - 1) := (ch_up (k - 1) (Nat.zero_le _) (by omega)).mono fun a b h => .one (List.mem_append_left _ h)
  have h2 : Reach (chr k) (k - 1) 0 := .one (List.mem_append_right _ (by simp))
  have := L.anti 0 (k - 1) (by omega) (by omega) h1 h2
  omega
theorem chr_one : Fine ((1 : Nat) : Int) (chr 1) := by
  refine ⟨by decide, by decide, chr_in (Nat.le_refl 1), ?_⟩
  show IsLatt 1 (chr 1)
  have h : ∀ a b, a < 1 → b < 1 → (Reach (chr 1) a b ↔ dle a b = true) := by
    intro a b ha hb
    have e1 : a = 0 := by omega
    have e2 : b = 0 := by omega
    subst e1 e2
    simp only [dle]
    exact ⟨fun _ => rfl, fun _ => .refl 0⟩
  exact (table_lat2 (j := fun _ _ => 0) (m := fun _ _ => 0) (by decide) h (by decide)).1
/-! sets -/
def sub (a b : Nat) : Bool := a &&& b == a
def cuRow (a y : Nat) : List (Int × Int) := ((List.range y).filter fun b => sub a b).map fun (b : Nat) => ((a : Int), (b : Int))
def cu (k x : Nat) : List (Int × Int) := (List.range x).flatMap fun a => cuRow a k
theorem cu_succ (k x : Nat) : cu k (x + 1) = cu k x ++ cuRow x k := by
  unfold cu
  rw [List.range_succ, List.flatMap_append]
  simp
theorem cuRow_yes {a y : Nat} (h : sub a y = true) : cuRow a (y + 1) = cuRow a y ++ [((a : Int), (y : Int))] := by
  unfold cuRow
  rw [List.range_succ, List.filter_append, List.map_append]
  simp [h]
theorem cuRow_no {a y : Nat} (h : sub a y = false) : cuRow a (y + 1) = cuRow a y := by
  unfold cuRow
  rw [List.range_succ, List.filter_append, List.map_append]
  simp [h]
theorem cuRow_len (a y : Nat) : (cuRow a y).length ≤ y := by
  unfold cuRow
  rw [List.length_map]
  exact Nat.le_trans (List.length_filter_le _ _) (by simp)
theorem cu_len (k : Nat) : ∀ x, (cu k x).length ≤ x * k
  | 0 => by simp [cu]
  | x + 1 => by
    rw [cu_succ, List.length_append, Nat.succ_mul]
    exact Nat.add_le_add (cu_len k x) (cuRow_len x k)
theorem cu_mem {k x : Nat} {z : Int × Int} : z ∈ cu k x ↔ ∃ a b : Nat, a < x ∧ b < k ∧ sub a b = true ∧ z = ((a : Int), (b : Int)) := by
  unfold cu cuRow
  simp only [List.mem_flatMap, List.mem_range, List.mem_map, List.mem_filter]
  constructor
  · rintro ⟨a, h1, b, ⟨h2, h3⟩, rfl⟩
    exact ⟨a, b, h1, h2, h3, rfl⟩
  · rintro ⟨a, b, h1, h2, h3, rfl⟩
    exact ⟨a, h1, b, ⟨h2, h3⟩, rfl⟩
theorem cu_in (k : Nat) : InR k (cu k k) := fun z hz => by
  obtain ⟨a, b, h1, h2, _, rfl⟩ := cu_mem.1 hz
  exact ⟨by rw [isI_nat]; simpa using h1, by rw [isI_nat]; simpa using h2⟩
theorem sub_iff (a b : Nat) : sub a b = true ↔ ∀ d, a.testBit d = true → b.testBit d = true := by
  unfold sub
  rw [beq_iff_eq]
  constructor
  · intro h d hd
    rw [← h, Nat.testBit_and, Bool.and_eq_true] at hd
    exact hd.2
  · intro h
    apply Nat.eq_of_testBit_eq
    intro d
    rw [Nat.testBit_and]
    cases ha : a.testBit d with
    | false => rfl
    | true => rw [h d ha]; rfl
theorem cu_iff (k : Nat) : ∀ a b, a < k → b < k → (Reach (cu k k) a b ↔ sub a b = true) := by
  refine reach_iff (cu_in k) (fun a _ => by simp [sub]) ?_ (fun a b ha hb h => .one (cu_mem.2 ⟨a, b, ha, hb, h, rfl⟩))
  intro a b c ha hb hc hd hm
  obtain ⟨a', b', _, _, h3, h4⟩ := cu_mem.1 hm
  simp only [Prod.mk.injEq] at h4
  have e1 : b = a' := by omega
  have e2 : c = b' := by omega
  subst e1 e2
  rw [sub_iff] at hd h3 ⊢
  exact fun d h => h3 d (hd d h)
theorem cu_tab : ∀ i, i < 5 → tableB (2 ^ i) sub (fun a b => a ||| b) (fun a b => a &&& b) = true := by decide +kernel
theorem cu_lat {i : Nat} (hi : i < 5) : IsLatt (2 ^ i) (cu (2 ^ i) (2 ^ i)) ∧ (∀ a b : Nat, a < (2 ^ i) → b < (2 ^ i) → joinI (2 ^ i) (ru (2 ^ i) (cu (2 ^ i) (2 ^ i))) a b = ((a ||| b : Nat) : Int)) ∧ (∀ a b : Nat, a < (2 ^ i) → b < (2 ^ i) → meetI (2 ^ i) (ru (2 ^ i) (cu (2 ^ i) (2 ^ i))) a b = ((a &&& b : Nat) : Int)) := table_lat2 (p := cu (2 ^ i) (2 ^ i)) (Nat.two_pow_pos i) (cu_iff (2 ^ i)) (cu_tab i hi)
theorem two_le {i : Nat} (hi : i < 5) : 1 ≤ 2 ^ i ∧ 2 ^ i ≤ 16 := ⟨Nat.two_pow_pos i, Nat.pow_le_pow_right (n := 2) (by decide) (show i ≤ 4 by omega)⟩
theorem cu_fine {i : Nat} (hi : i < 5) : Fine ((2 ^ i : Nat) : Int) (cu (2 ^ i) (2 ^ i)) := ⟨by have := (two_le hi).1; omega, by have := (two_le hi).2; omega, cu_in _, (cu_lat hi).1⟩
theorem cu_leq {k a b : Nat} (ha : a < k) (hb : b < k) : leqI k (ru k (cu k k)) a b = sub a b := by
  apply Bool.eq_iff_iff.2
  rw [leq_ru ha hb, cu_iff k a b ha hb]
theorem cu_bot {i : Nat} (hi : i < 5) : botI (2 ^ i) (ru (2 ^ i) (cu (2 ^ i) (2 ^ i))) = 0 :=
  bot_of (z := 0) (two_le hi).1 (fun d hd => (cu_iff _ 0 d (two_le hi).1 hd).2 (by simp [sub])) (cu_lat hi).1.anti
theorem sub_top : ∀ i, i < 5 → ∀ d, d < 2 ^ i → sub d (2 ^ i - 1) = true := by decide
theorem cu_top {i : Nat} (hi : i < 5) : topI (2 ^ i) (ru (2 ^ i) (cu (2 ^ i) (2 ^ i))) = ((2 ^ i - 1 : Nat) : Int) :=
  top_of (z := 2 ^ i - 1) (by have := (two_le hi).1; omega) (fun d hd => (cu_iff _ d _ hd (by have := (two_le hi).1; omega)).2 (sub_top i hi d hd)) (cu_lat hi).1.anti
/-! one above all and one below -/
def nn (k i : Nat) : List (Int × Int) := (List.range i).flatMap fun (a : Nat) => [((k : Int), (a : Int)), ((a : Int), ((k + 1 : Nat) : Int))]
theorem nn_succ (k i : Nat) : nn k (i + 1) = nn k i ++ [((k : Int), (i : Int)), ((i : Int), ((k + 1 : Nat) : Int))] := by
  unfold nn
  rw [List.range_succ, List.flatMap_append]
  simp
theorem nn_len (k : Nat) : ∀ i, (nn k i).length = 2 * i
  | 0 => by simp [nn]
  | i + 1 => by
    rw [nn_succ, List.length_append, nn_len k i]
    simp only [List.length_cons, List.length_nil]
    omega
theorem nn_mem {k i : Nat} {z : Int × Int} : z ∈ nn k i ↔ ∃ a : Nat, a < i ∧ (z = ((k : Int), (a : Int)) ∨ z = ((a : Int), ((k + 1 : Nat) : Int))) := by
  unfold nn
  simp only [List.mem_flatMap, List.mem_range, List.mem_cons, List.not_mem_nil, or_false]
theorem nn_in (k : Nat) : InR (k + 2) (nn k k) := fun z hz => by
  obtain ⟨a, h1, h2⟩ := nn_mem.1 hz
  rcases h2 with rfl | rfl <;> exact ⟨by rw [isI_nat]; exact decide_eq_true (by omega), by rw [isI_nat]; exact decide_eq_true (by omega)⟩
def dn (k a b : Nat) : Bool := a == b || a == k || b == k + 1
theorem nn_iff {k : Nat} (hk : 1 ≤ k) : ∀ a b, a < k + 2 → b < k + 2 → (Reach (nn k k) a b ↔ dn k a b = true) := by
  have f1 : ∀ a, a < k → Reach (nn k k) k a := fun a ha => .one (nn_mem.2 ⟨a, ha, .inl rfl⟩)
  have f2 : ∀ a, a < k → Reach (nn k k) a (k + 1) := fun a ha => .one (nn_mem.2 ⟨a, ha, .inr rfl⟩)
  refine reach_iff (nn_in k) (fun a _ => by simp [dn]) ?_ ?_
  · intro a b c ha hb hc hd hm
    obtain ⟨i, h1, h2⟩ := nn_mem.1 hm
    simp only [Prod.mk.injEq] at h2
    simp only [dn, Bool.or_eq_true, beq_iff_eq] at hd ⊢
    omega
  · intro a b ha hb hd
    simp only [dn, Bool.or_eq_true, beq_iff_eq] at hd
    by_cases e : a = b
    · subst e; exact .refl a
    · by_cases e2 : a = k
      · subst e2
        by_cases e3 : b < a
        · exact f1 b e3
        · have : b = a + 1 := by omega
          subst this
          exact (f1 0 (by omega)).trans (f2 0 (by omega))
      · have e4 : b = k + 1 := by omega
        subst e4
        exact f2 a (by omega)
def jn (k a b : Nat) : Nat := if a = b then a else if a = k then b else if b = k then a else k + 1
def mn (k a b : Nat) : Nat := if a = b then a else if a = k + 1 then b else if b = k + 1 then a else k
theorem nn_tab : ∀ k, k < 15 → 1 ≤ k → tableB (k + 2) (dn k) (jn k) (mn k) = true := by decide +kernel
theorem nn_lat {k : Nat} (hk : 1 ≤ k) (hk2 : k < 15) : IsLatt (k + 2) (nn k k) ∧ (∀ a b : Nat, a < (k + 2) → b < (k + 2) → joinI (k + 2) (ru (k + 2) (nn k k)) a b = ((jn k a b : Nat) : Int)) ∧ (∀ a b : Nat, a < (k + 2) → b < (k + 2) → meetI (k + 2) (ru (k + 2) (nn k k)) a b = ((mn k a b : Nat) : Int)) := table_lat2 (p := nn k k) (by omega) (nn_iff hk) (nn_tab k hk2 hk)
theorem nn_fine {k : Nat} (hk : 1 ≤ k) (hk2 : k < 15) : Fine ((k + 2 : Nat) : Int) (nn k k) := ⟨by omega, by omega, nn_in k, (nn_lat hk hk2).1⟩
theorem nn_bot {k : Nat} (hk : 1 ≤ k) (hk2 : k < 15) : botI (k + 2) (ru (k + 2) (nn k k)) = (k : Int) :=
  bot_of (z := k) (by omega) (fun d hd => (nn_iff hk k d (by omega) hd).2 (by simp [dn])) (nn_lat hk hk2).1.anti
theorem nn_top {k : Nat} (hk : 1 ≤ k) (hk2 : k < 15) : topI (k + 2) (ru (k + 2) (nn k k)) = ((k + 1 : Nat) : Int) :=
  top_of (z := k + 1) (by omega) (fun d hd => (nn_iff hk d (k + 1) hd (by omega)).2 (by simp [dn])) (nn_lat hk hk2).1.anti
theorem nn_join {k : Nat} (hk : 2 ≤ k) (hk2 : k < 15) : joinI (k + 2) (ru (k + 2) (nn k k)) 0 1 = ((k + 1 : Nat) : Int) := by
  have h := (nn_lat (by omega) hk2).2.1 0 1 (by omega) (by omega)
  have e : jn k 0 1 = k + 1 := by unfold jn; rw [if_neg (by decide), if_neg (show ¬ 0 = k by omega), if_neg (show ¬ 1 = k by omega)]
  rw [e] at h
  exact h
theorem nn_meet {k : Nat} (hk : 2 ≤ k) (hk2 : k < 15) : meetI (k + 2) (ru (k + 2) (nn k k)) 0 1 = (k : Int) := by
  have h := (nn_lat (by omega) hk2).2.2 0 1 (by omega) (by omega)
  have e : mn k 0 1 = k := by unfold mn; rw [if_neg (by decide), if_neg (show ¬ 0 = k + 1 by omega), if_neg (show ¬ 1 = k + 1 by omega)]
  rw [e] at h
  exact h
theorem reach_nil {a b : Nat} (h : Reach [] a b) : a = b := by
  cases h with
  | refl => rfl
  | step _ hm => simp at hm
theorem nil_no {k : Nat} (hk : 2 ≤ k) : ¬ IsLatt k [] := fun L => by
  obtain ⟨c, _, h1, h2, _⟩ := L.lub 0 1 (by omega) (by omega)
  have := reach_nil h1
  have := reach_nil h2
  omega
theorem nil_args {k : Nat} (hk : 1 ≤ k) (hk2 : k ≤ 16) : Args (k : Int) [] := ⟨by omega, by omega, fun x hx => by simp at hx⟩
theorem one_args {k : Nat} (hk : 1 ≤ k) (hk2 : k < 15) : Args ((k + 1 : Nat) : Int) ((nn k k).take 1) := ⟨by omega, by omega, fun z hz => by
  rw [Int.toNat_natCast]
  obtain ⟨a, h1, h2⟩ := nn_mem.1 (List.mem_of_mem_take hz)
  have h3 : (nn k k).take 1 = [((k : Int), ((0 : Nat) : Int))] := by
    obtain ⟨k', rfl⟩ : ∃ k', k = k' + 1 := ⟨k - 1, by omega⟩
    unfold nn
    rw [List.range_succ_eq_map]
    rfl
  rw [h3] at hz
  simp only [List.mem_singleton] at hz
  subst hz
  exact ⟨by rw [isI_nat]; simp, by rw [isI_nat]; simp⟩⟩
theorem one_no {k : Nat} (hk : 2 ≤ k) : ¬ IsLatt (k + 1) ((nn k k).take 1) := fun L => by
  have h3 : (nn k k).take 1 = [((k : Int), ((0 : Nat) : Int))] := by
    obtain ⟨k', rfl⟩ : ∃ k', k = k' + 1 := ⟨k - 1, by omega⟩
    unfold nn
    rw [List.range_succ_eq_map]
    rfl
  have key : ∀ a b, a < k → Reach ((nn k k).take 1) a b → a = b := fun a b ha h => by
    induction h with
    | refl => rfl
    | @step b c _ hm ih =>
      rw [h3] at hm
      simp only [List.mem_singleton, Prod.mk.injEq] at hm
      omega
  obtain ⟨c, _, h1, h2, _⟩ := L.lub 0 1 (by omega) (by omega)
  have := key 0 c (by omega) h1
  have := key 1 c (by omega) h2
  omega
/-! one level more, above all -/
def upn (q : List (Int × Int)) (hi n : Nat) : List (Int × Int) := q ++ [((hi : Int), (n : Int))]
theorem upn_iff {n : Nat} {q : List (Int × Int)} {j m : Nat → Nat → Nat} {lo hi : Nat} (hin : InR n q) (L : Lat2 n q j m lo hi) : ∀ a b, a < n + 1 → b < n + 1 → (Reach (upn q hi n) a b ↔ (b = n ∨ (a < n ∧ Reach q a b))) := by
  have hm : ∀ {a b}, Reach q a b → Reach (upn q hi n) a b := fun k => k.mono fun a b hab => .one (List.mem_append_left _ hab)
  intro a b ha hb
  constructor
  · intro h
    induction h with
    | refl =>
      by_cases e : a = n
      · exact .inl e
      · exact .inr ⟨by omega, .refl a⟩
    | @step b c k hmem ih =>
      rcases List.mem_append.1 hmem with h1 | h1
      · have h2 := (hin _ h1).1
        have h3 := (hin _ h1).2
        rw [isI_nat] at h2 h3
        simp only [decide_eq_true_eq] at h2 h3
        rcases ih (by omega) with h4 | h4
        · omega
        · exact .inr ⟨h4.1, h4.2.trans (.one h1)⟩
      · simp only [List.mem_singleton, Prod.mk.injEq] at h1
        exact .inl (by omega)
  · rintro (rfl | ⟨h1, h2⟩)
    · by_cases e : a = b
      · subst e; exact .refl _
      · exact .step (hm (L.hir a (by omega))) (List.mem_append_right _ (by simp))
    · exact hm h2
theorem upn_in {n : Nat} {q : List (Int × Int)} {hi : Nat} (hin : InR n q) (hhi : hi < n) : InR (n + 1) (upn q hi n) := fun z hz => by
  rcases List.mem_append.1 hz with h | h
  · have h1 := (hin z h).1
    have h2 := (hin z h).2
    unfold isI at h1 h2 ⊢
    simp only [Bool.and_eq_true, decide_eq_true_eq] at h1 h2 ⊢
    omega
  · simp only [List.mem_singleton] at h
    subst h
    exact ⟨by rw [isI_nat]; simp; omega, by rw [isI_nat]; simp⟩
theorem upn_latt {n : Nat} {q : List (Int × Int)} {j m : Nat → Nat → Nat} {lo hi : Nat} (hin : InR n q) (L : Lat2 n q j m lo hi) : IsLatt (n + 1) (upn q hi n) where
  anti := fun a b ha hb h1 h2 => by
    rw [upn_iff hin L a b ha hb] at h1
    rw [upn_iff hin L b a hb ha] at h2
    rcases h1 with h1 | h1 <;> rcases h2 with h2 | h2
    · omega
    · omega
    · omega
    · exact L.anti a b h1.1 h2.1 h1.2 h2.2
  lub := fun a b ha hb => by
    by_cases h : a < n ∧ b < n
    · refine ⟨j a b, Nat.lt_succ_of_lt (L.jn a b h.1 h.2), (upn_iff hin L a _ ha (Nat.lt_succ_of_lt (L.jn a b h.1 h.2))).2 (.inr ⟨h.1, L.jl a b h.1 h.2⟩), (upn_iff hin L b _ hb (Nat.lt_succ_of_lt (L.jn a b h.1 h.2))).2 (.inr ⟨h.2, L.jr a b h.1 h.2⟩), fun d hd h1 h2 => ?_⟩
      rw [upn_iff hin L a d ha hd] at h1
      rw [upn_iff hin L b d hb hd] at h2
      refine (upn_iff hin L _ d (Nat.lt_succ_of_lt (L.jn a b h.1 h.2)) hd).2 ?_
      rcases h1 with h1 | h1
      · exact .inl h1
      · rcases h2 with h2 | h2
        · exact .inl h2
        · exact .inr ⟨L.jn a b h.1 h.2, L.jm a b d h.1 h.2 (h1.2.lt hin h.1) h1.2 h2.2⟩
    · refine ⟨n, by omega, (upn_iff hin L a n ha (by omega)).2 (.inl rfl), (upn_iff hin L b n hb (by omega)).2 (.inl rfl), fun d hd h1 h2 => ?_⟩
      refine (upn_iff hin L n d (by omega) hd).2 (.inl ?_)
      rw [upn_iff hin L a d ha hd] at h1
      rw [upn_iff hin L b d hb hd] at h2
      omega
  glb := fun a b ha hb => by
    by_cases h : a < n ∧ b < n
    · refine ⟨m a b, Nat.lt_succ_of_lt (L.mn a b h.1 h.2), (upn_iff hin L _ a (Nat.lt_succ_of_lt (L.mn a b h.1 h.2)) ha).2 (.inr ⟨L.mn a b h.1 h.2, L.ml a b h.1 h.2⟩), (upn_iff hin L _ b (Nat.lt_succ_of_lt (L.mn a b h.1 h.2)) hb).2 (.inr ⟨L.mn a b h.1 h.2, L.mr a b h.1 h.2⟩), fun d hd h1 h2 => ?_⟩
      rw [upn_iff hin L d a hd ha] at h1
      rw [upn_iff hin L d b hd hb] at h2
      refine (upn_iff hin L d _ hd (Nat.lt_succ_of_lt (L.mn a b h.1 h.2))).2 (.inr ?_)
      rcases h1 with h1 | h1
      · omega
      · rcases h2 with h2 | h2
        · omega
        · exact ⟨h1.1, L.mm a b d h.1 h.2 h1.1 h1.2 h2.2⟩
    · by_cases e : a = n
      · subst e
        exact ⟨b, hb, (upn_iff hin L b a hb ha).2 (.inl rfl), .refl b, fun d hd _ h2 => h2⟩
      · have e2 : b = n := by omega
        subst e2
        exact ⟨a, ha, .refl a, (upn_iff hin L a b ha hb).2 (.inl rfl), fun d hd h1 _ => h1⟩
theorem upn_fine {n : Nat} {q : List (Int × Int)} {j m : Nat → Nat → Nat} {lo hi : Nat} (hin : InR n q) (L : Lat2 n q j m lo hi) (hn : n < 16) : Fine ((n + 1 : Nat) : Int) (upn q hi n) := ⟨by omega, by omega, upn_in hin L.hin, upn_latt hin L⟩
theorem upn_top {n : Nat} {q : List (Int × Int)} {j m : Nat → Nat → Nat} {lo hi : Nat} (hin : InR n q) (L : Lat2 n q j m lo hi) : topI (n + 1) (ru (n + 1) (upn q hi n)) = (n : Int) :=
  top_of (z := n) (by omega) (fun d hd => (upn_iff hin L d n hd (by omega)).2 (.inl rfl)) (upn_latt hin L).anti
theorem upn_bot {n : Nat} {q : List (Int × Int)} {j m : Nat → Nat → Nat} {lo hi : Nat} (hin : InR n q) (L : Lat2 n q j m lo hi) : botI (n + 1) (ru (n + 1) (upn q hi n)) = (lo : Int) :=
  bot_of (z := lo) (Nat.lt_succ_of_lt L.lon) (fun d hd => (upn_iff hin L lo d (Nat.lt_succ_of_lt L.lon) hd).2 (by
    by_cases e : d = n
    · exact .inl e
    · exact .inr ⟨L.lon, L.lol d (by omega)⟩)) (upn_latt hin L).anti
theorem upn_leq {n : Nat} {q : List (Int × Int)} {j m : Nat → Nat → Nat} {lo hi : Nat} (hin : InR n q) (L : Lat2 n q j m lo hi) {x : Nat} (hx : x < n) : leqI (n + 1) (ru (n + 1) (upn q hi n)) x n = true :=
  (leq_ru (by omega) (by omega)).2 ((upn_iff hin L x n (by omega) (by omega)).2 (.inl rfl))
end Go.Proofs.YtamifocfbcmfkaaDoor.LattP

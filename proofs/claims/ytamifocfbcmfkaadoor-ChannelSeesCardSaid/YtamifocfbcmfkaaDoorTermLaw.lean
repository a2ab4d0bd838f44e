/- Terms and levels: the join of a term's levels. Conditions: none; plain lemmas. -/
import Derived.Test.YtamifocfbcmfkaaDoorTermPure
import Derived.Test.YtamifocfbcmfkaaDoorGrantPure
set_option linter.unusedVariables false
set_option linter.unusedSimpArgs false
namespace Go.Proofs.YtamifocfbcmfkaaDoor.TermP
open Go.RowKit Go.Proofs.YtamifocfbcmfkaaDoor.E Go.Proofs.YtamifocfbcmfkaaDoor.LattP
def levN (n hi : Nat) (m : Int) : Nat := if isI n m = true then m.toNat else hi
mutual
def sj (n lo hi : Nat) (j : Nat → Nat → Nat) : GT → Nat | .mk k m _ _ _ kids => sjs n lo hi j (if k = 4 then levN n hi m else lo) kids
def sjs (n lo hi : Nat) (j : Nat → Nat → Nat) : Nat → List GT → Nat | a, [] => a | a, t :: l => sjs n lo hi j (j a (sj n lo hi j t)) l
end
theorem sjs_snoc {n lo hi : Nat} {j : Nat → Nat → Nat} : ∀ (l : List GT) (a : Nat) (t : GT), sjs n lo hi j a (l ++ [t]) = j (sjs n lo hi j a l) (sj n lo hi j t)
  | [], a, t => by simp [sjs]
  | x :: l, a, t => by
    rw [List.cons_append, sjs, sjs]
    exact sjs_snoc l _ t
theorem sjs_succ {n lo hi : Nat} {j : Nat → Nat → Nat} {l : List GT} {a i : Nat} {t : GT} (h : l[i]? = some t) : j (sjs n lo hi j a (l.take i)) (sj n lo hi j t) = sjs n lo hi j a (l.take (i + 1)) := by rw [take_snoc h, sjs_snoc]
section
variable {n : Nat} {p : List (Int × Int)} {j m : Nat → Nat → Nat} {lo hi : Nat}
theorem levN_lt (L : Lat2 n p j m lo hi) (x : Int) : levN n hi x < n := by
  unfold levN
  by_cases h : isI n x = true
  · rw [if_pos h]
    obtain ⟨k, rfl, hk⟩ := isI_some h
    exact hk
  · rw [if_neg h]
    exact L.hin
theorem levN_yes {x : Int} (h : isI n x = true) : ((levN n hi x : Nat) : Int) = x := by
  unfold levN
  rw [if_pos h]
  obtain ⟨k, rfl, hk⟩ := isI_some h
  rfl
theorem levN_no {x : Int} (h : isI n x = false) : levN n hi x = hi := by
  unfold levN
  rw [h]
  rfl
theorem sjs_lt (L : Lat2 n p j m lo hi) : ∀ (l : List GT) (a : Nat), a < n → (∀ t, t ∈ l → sj n lo hi j t < n) → sjs n lo hi j a l < n
  | [], a, ha, _ => by rw [sjs]; exact ha
  | t :: l, a, ha, hl => by
    rw [sjs]
    exact sjs_lt L l _ (L.jn _ _ ha (hl t List.mem_cons_self)) fun t ht => hl t (List.mem_cons_of_mem _ ht)
theorem start_lt (L : Lat2 n p j m lo hi) (k x : Int) : (if k = 4 then levN n hi x else lo) < n := by
  split
  · exact levN_lt L x
  · exact L.lon
theorem sj_lt (L : Lat2 n p j m lo hi) (t : GT) : sj n lo hi j t < n := by
  induction t using GT.ind with
  | h k x s A c kids ih =>
    rw [sj]
    exact sjs_lt L kids _ (start_lt L k x) ih
theorem sjs_at (L : Lat2 n p j m lo hi) (l : List GT) (a i : Nat) (ha : a < n) : sjs n lo hi j a (l.take i) < n := sjs_lt L _ _ ha fun t _ => sj_lt L t
/-- may a term be seen, for who has seen what is at now -/
def mayT (n : Nat) (u : U) (now : Int) (s : Nat) (lv : Int) : Bool := leqI n u (joinI n u now (s : Int)) lv
theorem mayT_iff (L : Lat2 n p j m lo hi) {a s b : Nat} (ha : a < n) (hs : s < n) (hb : b < n) : mayT n (ru n p) a s b = true ↔ Go.Proofs.YtamifocfbcmfkaaDoor.LattP.Reach p a b ∧ Go.Proofs.YtamifocfbcmfkaaDoor.LattP.Reach p s b := by
  unfold mayT
  rw [L.je a s ha hs, leq_ru (L.jn a s ha hs) hb]
  exact ⟨fun h => ⟨L.tr _ _ _ (L.jl a s ha hs) h, L.tr _ _ _ (L.jr a s ha hs) h⟩, fun h => L.jm a s b ha hs hb h.1 h.2⟩
theorem may_more (L : Lat2 n p j m lo hi) {a s b c : Nat} (ha : a < n) (hs : s < n) (hb : b < n) (hc : c < n) (h : mayT n (ru n p) a s b = true) : mayT n (ru n p) a s (j b c : Nat) = true := by
  obtain ⟨h1, h2⟩ := (mayT_iff L ha hs hb).1 h
  exact (mayT_iff L ha hs (L.jn b c hb hc)).2 ⟨L.tr _ _ _ h1 (L.jl b c hb hc), L.tr _ _ _ h2 (L.jl b c hb hc)⟩
theorem may_less (L : Lat2 n p j m lo hi) {a s b : Nat} (ha : a < n) (hs : s < n) (hb : b < n) (h : mayT n (ru n p) a s b = true) : mayT n (ru n p) (lo : Int) s b = true := by
  obtain ⟨h1, h2⟩ := (mayT_iff L ha hs hb).1 h
  exact (mayT_iff L L.lon hs hb).2 ⟨L.lol b hb, h2⟩
theorem may_leq (L : Lat2 n p j m lo hi) {a s b : Nat} (ha : a < n) (hs : s < n) (hb : b < n) (h : mayT n (ru n p) a s b = true) : leqI n (ru n p) a b = true := (leq_ru ha hb).2 ((mayT_iff L ha hs hb).1 h).1
theorem may_bare (L : Lat2 n p j m lo hi) {a b : Nat} (ha : a < n) (hb : b < n) : mayT n (ru n p) a lo b = leqI n (ru n p) a b := by
  rw [Bool.eq_iff_iff, mayT_iff L ha L.lon hb, leq_ru ha hb]
  exact ⟨fun h => h.1, fun h => ⟨h, L.lol b hb⟩⟩
end
end Go.Proofs.YtamifocfbcmfkaaDoor.TermP

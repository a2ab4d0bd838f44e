/- The laws on levels: each returns true, and turns nothing. Conditions: none. Printed by a program of this session. -/
import Derived.Test.YtamifocfbcmfkaaDoorLattA
import Derived.Test.YtamifocfbcmfkaaDoorLattLaw
set_option linter.unusedVariables false
set_option linter.unusedSimpArgs false
namespace Go.Proofs.YtamifocfbcmfkaaDoor
open Go.RowKit Go.Proofs.YtamifocfbcmfkaaDoor.E Go.Proofs.YtamifocfbcmfkaaDoor.LattP
theorem newGood_c (k : Nat) (A : Option Addr) (l c : Nat) (p : List (Int × Int)) (h : Hp) (hF : Fine (k : Int) p) (hp : PairsAt h A p) (hl : p.length = l) (hm : l ≤ 9223372036854775807) :
    CX Tryd.prog 18 [.int .i64 (k : Int), .slice A l c] h (fun g : Nat => newV (some g, 0)) (fun g h' => h' g = some (lat 94 k (ru k p))) := fun w hw => by
  refine (new_c k A l c p h hp hl hm w hw).mono fun e w' ⟨x, h', he, hx, hg⟩ => ?_
  rcases hx with ⟨g, rfl, _, hg2⟩ | ⟨rfl, ha⟩ | ⟨rfl, ha, hL⟩
  · exact ⟨g, h', he, hg2, hg⟩
  · exact absurd ⟨hF.1, hF.2.1, hF.2.2.1⟩ ha
  · exact absurd hF.2.2.2 hL
theorem newArg_c (n : Int) (A : Option Addr) (l c : Nat) (p : List (Int × Int)) (h : Hp) (hF : ¬ Args n p) (hp : PairsAt h A p) (hl : p.length = l) (hm : l ≤ 9223372036854775807) :
    C0 Tryd.prog 18 [.int .i64 n, .slice A l c] h (newV (none, 1)) := fun w hw => by
  refine (new_c n A l c p h hp hl hm w hw).mono fun e w' ⟨x, h', he, hx, hg⟩ => ?_
  rcases hx with ⟨g, rfl, ha, hg2⟩ | ⟨rfl, ha⟩ | ⟨rfl, ha, hL⟩
  · exact absurd ⟨ha.1, ha.2.1, ha.2.2.1⟩ hF
  · exact ⟨he, hg.frm⟩
  · exact absurd ha hF
theorem newForm_c (n : Int) (A : Option Addr) (l c : Nat) (p : List (Int × Int)) (h : Hp) (hA : Args n p) (hF : ¬ IsLatt n.toNat p) (hp : PairsAt h A p) (hl : p.length = l) (hm : l ≤ 9223372036854775807) :
    C0 Tryd.prog 18 [.int .i64 n, .slice A l c] h (newV (none, 4)) := fun w hw => by
  refine (new_c n A l c p h hp hl hm w hw).mono fun e w' ⟨x, h', he, hx, hg⟩ => ?_
  rcases hx with ⟨g, rfl, ha, hg2⟩ | ⟨rfl, ha⟩ | ⟨rfl, ha, hL⟩
  · exact absurd ha.2.2.2 hF
  · exact absurd hA ha
  · exact ⟨he, hg.frm⟩
theorem newErr_c (n : Int) (A : Option Addr) (l c : Nat) (p : List (Int × Int)) (hl : p.length = l) (hm : l ≤ 9223372036854775807) (hF : ¬ Fine n p) :
    ∃ e : Int, (e != 0) = true ∧ ∀ h, PairsAt h A p → C0 Tryd.prog 18 [.int .i64 n, .slice A l c] h (newV (none, e)) := by
  by_cases hA : Args n p
  · exact ⟨4, by decide, fun h hp => newForm_c n A l c p h hA (fun hL => hF ⟨hA.1, hA.2.1, hA.2.2, hL⟩) hp hl hm⟩
  · exact ⟨1, by decide, fun h hp => newArg_c n A l c p h hA hp hl hm⟩
section
variable {g n : Nat} {p : List (Int × Int)} {h : Hp} {j m : Nat → Nat → Nat} {lo hi : Nat}
theorem Lat2.pos {lo hi : Nat} (L : Lat2 n p j m lo hi) : 1 ≤ n := by have := L.lon; omega
theorem joinJ_c (hg : h g = some (lat 94 n (ru n p))) (hn : n ≤ 16) (L : Lat2 n p j m lo hi) {x y : Nat} (hx : x < n) (hy : y < n) : C0 Tryd.prog 36 [.pointer (some ⟨g, 0, none⟩), .int .i64 (x : Int), .int .i64 (y : Int)] h (.int .i64 ((j x y : Nat) : Int)) := by
  rw [← L.je x y hx hy]
  exact join_c g n _ h hg (Lat2.pos L) hn (ru_lt hn p) _ _
theorem meetJ_c (hg : h g = some (lat 94 n (ru n p))) (hn : n ≤ 16) (L : Lat2 n p j m lo hi) {x y : Nat} (hx : x < n) (hy : y < n) : C0 Tryd.prog 43 [.pointer (some ⟨g, 0, none⟩), .int .i64 (x : Int), .int .i64 (y : Int)] h (.int .i64 ((m x y : Nat) : Int)) := by
  rw [← L.me x y hx hy]
  exact meet_c g n _ h hg (Lat2.pos L) hn (ru_lt hn p) _ _
theorem leqJ_c (hg : h g = some (lat 94 n (ru n p))) (hn : n ≤ 16) (L : Lat2 n p j m lo hi) (x y : Nat) : C0 Tryd.prog 23 [.pointer (some ⟨g, 0, none⟩), .int .i64 (x : Int), .int .i64 (y : Int)] h (.bool (leqI n (ru n p) x y)) :=
  leq_c g n _ h hg (Lat2.pos L) hn (ru_lt hn p) _ _
theorem botJ_c (hg : h g = some (lat 94 n (ru n p))) (hn : n ≤ 16) (L : Lat2 n p j m lo hi) : C0 Tryd.prog 25 [.pointer (some ⟨g, 0, none⟩)] h (.int .i64 (lo : Int)) := by
  rw [← L.loe]
  exact bot_c g n _ h hg (Lat2.pos L) hn (ru_lt hn p)
theorem topJ_c (hg : h g = some (lat 94 n (ru n p))) (hn : n ≤ 16) (L : Lat2 n p j m lo hi) : C0 Tryd.prog 26 [.pointer (some ⟨g, 0, none⟩)] h (.int .i64 (hi : Int)) := by
  rw [← L.hie]
  exact top_c g n _ h hg (Lat2.pos L) hn (ru_lt hn p)
end

end Go.Proofs.YtamifocfbcmfkaaDoor

/- The laws on tokens: two lists held against each other: the walk. Conditions: as each says. Printed by a program of this session. -/
import Derived.Test.YtdbeiaohibgmeaaFactsP
import Derived.Test.YtdbeiaohibgmeaaTokH
import Derived.Test.YtdbeiaohibgmeaaJoinPure
set_option linter.unusedVariables false
set_option linter.unusedSimpArgs false
namespace Go.Proofs.Ytdbeiaohibgmeaa
open Go.RowKit Go.Proofs.Ytdbeiaohibgmeaa.E Go.Proofs.Ytdbeiaohibgmeaa.ReplP Go.Proofs.Ytdbeiaohibgmeaa.TokP
theorem scan2_c (s : ByteArray) (h : Hp) : CX Try.prog 9 [.string s] h (fun x : Option Addr × Nat => .tuple #[.slice x.1 (scTs (scanA s.data.toList)).length x.2, .int .i64 ((scAt (scanA s.data.toList) : Nat) : Int), errV 44 (scE (scanA s.data.toList))]) (fun x h' => RowsAt h' x.1 5 ((scTs (scanA s.data.toList)).map tkC) ∧ (scTs (scanA s.data.toList)).length ≤ x.2) := fun w hs => (scan_c s h w hs).mono fun e w' ⟨x, h', he, hx, hg⟩ => by
  cases hr : scanA s.data.toList with
  | ok ts =>
    rw [hr] at he hx
    exact ⟨x, h', he, hx, hg⟩
  | bad i a b =>
    rw [hr] at he
    exact ⟨(none, 0), h', he, ⟨fun j c hj => by simp [scTs] at hj, Nat.le_refl _⟩, hg⟩
theorem scan3_c (s : ByteArray) (l : List UInt8) (hl : s.data.toList = l) (h : Hp) : CX Try.prog 9 [.string s] h (fun x : Option Addr × Nat => .tuple #[.slice x.1 (scTs (scanA l)).length x.2, .int .i64 ((scAt (scanA l) : Nat) : Int), errV 44 (scE (scanA l))]) (fun x h' => RowsAt h' x.1 5 ((scTs (scanA l)).map tkC) ∧ (scTs (scanA l)).length ≤ x.2) := by
  subst hl
  exact scan2_c s h
set_option maxRecDepth 100000 in
theorem same_c (ts : List Tk) (A B : Option Addr) (cA cB : Nat) (tg : Bool) (h : Hp) (hA : RowsAt h A 5 (ts.map tkC)) (hB : RowsAt h B 5 (ts.map tkC)) (hz : ts.length ≤ 140737488355328) : C0 Try.prog 12 [.slice A ts.length cA, .slice B ts.length cB, .bool tg] h (.bool true) := by
  refine enter0 Try.func12 rfl rfl rfl (fun w => ?_)
  refine cy_seq ?_
  refine cy_region ?_
  refine sy_assign rfl rfl rfl ?_
  refine sy_nil rfl ?_
  refine ny_next ?_
  refine cy_seq ?_
  refine cy_seq ?_
  refine cy_region ?_
  refine sy_move rfl rfl rfl ?_
  refine sy_len rfl (len_slice Try.underlying24 _ _ _) rfl rfl ?_
  refine sy_move rfl rfl rfl ?_
  refine sy_len rfl (len_slice Try.underlying24 _ _ _) rfl rfl ?_
  refine sy_cmp rfl rfl rfl rfl rfl ?_
  refine sy_setF (d := 12) rfl rfl (by first | rfl | (simp; done)) ?_
  refine sy_nil rfl ?_
  refine ny_next ?_
  refine cy_condF rfl ?_
  refine cy_skip ?_
  refine ny_next ?_
  refine cy_seq ?_
  refine cy_seq ?_
  refine cy_region ?_
  refine sy_assign rfl rfl rfl ?_
  refine sy_nil rfl ?_
  refine ny_next ?_
  refine cy_block ?_
  refine cy_loopK (ι := Nat) [0, 1, 2] rfl (fun i => i ≤ ts.length) (fun i => ts.length - i) (fun i => [(7, .int .i64 (i : Int))]) (fun i => h) (fun i => []) 0 [] (Nat.zero_le _) ⟨rfl, trivial⟩ rfl rfl ?_
  rintro i hI
  refine cy_seq ?_
  refine cy_seq ?_
  refine cy_region ?_
  refine sy_move rfl rfl rfl ?_
  refine sy_move rfl rfl rfl ?_
  refine sy_len rfl (len_slice Try.underlying24 _ _ _) rfl rfl ?_
  refine sy_cmp rfl rfl rfl rfl rfl ?_
  refine sy_nil rfl ?_
  refine ny_next ?_
  refine cy_cond rfl (fun hc16 => ?_) (fun hc16 => ?_)
  · have hlti : i < ts.length := by have := of_decide_eq_true hc16; omega
    refine cy_skip ?_
    refine ny_next ?_
    refine cy_seq ?_
    refine cy_block ?_
    refine cy_seq ?_
    refine cy_regionQ mixed (by kernel_rfl) ?_
    refine sy_move rfl rfl rfl ?_
    refine sy_move rfl rfl rfl ?_
    refine sy_idxR (fc := tkC) (es := ts) els_24 rfl rfl hA rfl (by omega) rfl rfl (fun e21 b21 o21 he21 hA21 hc21 => ?_)
    refine sy_field fld_31_0 rfl rfl rfl ?_
    refine sy_ldh one_3 rfl (hc21 0 _ rfl) rfl rfl ?_
    refine sy_move rfl rfl rfl ?_
    refine sy_move rfl rfl rfl ?_
    refine sy_idxR (fc := tkC) (es := ts) els_24 rfl rfl hB rfl (by omega) rfl rfl (fun e26 b26 o26 he26 hA26 hc26 => ?_)
    obtain rfl : e21 = e26 := Option.some.inj (he21.symm.trans he26)
    refine sy_field fld_31_0 rfl rfl rfl ?_
    refine sy_ldh one_3 rfl (hc26 0 _ rfl) rfl rfl ?_
    refine sy_cmp rfl rfl rfl rfl rfl ?_
    refine sy_move rfl rfl rfl ?_
    refine sy_setF (d := 30) rfl rfl (by first | rfl | (simp; done)) ?_
    refine sy_move rfl rfl rfl ?_
    refine sy_move rfl rfl rfl ?_
    refine sy_idxR (fc := tkC) (es := ts) els_24 rfl rfl hA rfl (by omega) rfl rfl (fun e33 b33 o33 he33 hA33 hc33 => ?_)
    refine sy_field fld_31_1 rfl rfl rfl ?_
    refine sy_ldh one_9 rfl (hc33 1 _ rfl) rfl rfl ?_
    refine sy_move rfl rfl rfl ?_
    refine sy_move rfl rfl rfl ?_
    refine sy_idxR (fc := tkC) (es := ts) els_24 rfl rfl hB rfl (by omega) rfl rfl (fun e38 b38 o38 he38 hA38 hc38 => ?_)
    obtain rfl : e33 = e38 := Option.some.inj (he33.symm.trans he38)
    refine sy_field fld_31_1 rfl rfl rfl ?_
    refine sy_ldh one_9 rfl (hc38 1 _ rfl) rfl rfl ?_
    refine sy_nes rfl rfl rfl rfl ?_
    refine sy_pickF rfl rfl rfl rfl ?_
    refine sy_move rfl rfl rfl ?_
    refine sy_setF (d := 43) rfl rfl (by first | rfl | (simp; done)) ?_
    refine sy_move rfl rfl rfl ?_
    refine sy_move rfl rfl rfl ?_
    refine sy_idxR (fc := tkC) (es := ts) els_24 rfl rfl hA rfl (by omega) rfl rfl (fun e46 b46 o46 he46 hA46 hc46 => ?_)
    refine sy_field fld_31_2 rfl rfl rfl ?_
    refine sy_ldh one_2 rfl (hc46 2 _ rfl) rfl rfl ?_
    refine sy_move rfl rfl rfl ?_
    refine sy_move rfl rfl rfl ?_
    refine sy_idxR (fc := tkC) (es := ts) els_24 rfl rfl hB rfl (by omega) rfl rfl (fun e51 b51 o51 he51 hA51 hc51 => ?_)
    obtain rfl : e46 = e51 := Option.some.inj (he46.symm.trans he51)
    refine sy_field fld_31_2 rfl rfl rfl ?_
    refine sy_ldh one_2 rfl (hc51 2 _ rfl) rfl rfl ?_
    refine sy_cmp rfl rfl rfl rfl rfl ?_
    refine sy_pickF rfl rfl rfl rfl ?_
    refine sy_move rfl rfl rfl ?_
    refine sy_setF (d := 56) rfl rfl (by first | rfl | (simp; done)) ?_
    refine sy_move rfl rfl rfl ?_
    refine sy_move rfl rfl rfl ?_
    refine sy_idxR (fc := tkC) (es := ts) els_24 rfl rfl hA rfl (by omega) rfl rfl (fun e59 b59 o59 he59 hA59 hc59 => ?_)
    refine sy_field fld_31_3 rfl rfl rfl ?_
    refine sy_ldh one_4 rfl (hc59 3 _ rfl) rfl rfl ?_
    refine sy_move rfl rfl rfl ?_
    refine sy_move rfl rfl rfl ?_
    refine sy_idxR (fc := tkC) (es := ts) els_24 rfl rfl hB rfl (by omega) rfl rfl (fun e64 b64 o64 he64 hA64 hc64 => ?_)
    obtain rfl : e59 = e64 := Option.some.inj (he59.symm.trans he64)
    refine sy_field fld_31_3 rfl rfl rfl ?_
    refine sy_ldh one_4 rfl (hc64 3 _ rfl) rfl rfl ?_
    refine sy_neb Try.underlying4 rfl rfl rfl rfl ?_
    refine sy_pickF rfl rfl rfl rfl ?_
    refine sy_move rfl rfl rfl ?_
    refine sy_setF (d := 69) rfl rfl (by first | rfl | (simp; done)) ?_
    refine sy_move rfl rfl rfl ?_
    refine sy_move rfl rfl rfl ?_
    refine sy_cond (d := 71) _ rfl rfl (fun hg71 => ?_) (fun hg71 => ?_)
    · refine sy_move rfl rfl rfl ?_
      refine sy_move rfl rfl rfl ?_
      refine sy_idxR (fc := tkC) (es := ts) els_24 rfl rfl hA rfl (by omega) rfl rfl (fun e74 b74 o74 he74 hA74 hc74 => ?_)
      refine sy_field fld_31_4 rfl rfl rfl ?_
      refine sy_ldh one_4 rfl (hc74 4 _ rfl) rfl rfl ?_
      refine sy_move rfl rfl rfl ?_
      refine sy_move rfl rfl rfl ?_
      refine sy_idxR (fc := tkC) (es := ts) els_24 rfl rfl hB rfl (by omega) rfl rfl (fun e79 b79 o79 he79 hA79 hc79 => ?_)
      obtain rfl : e74 = e79 := Option.some.inj (he74.symm.trans he79)
      refine sy_field fld_31_4 rfl rfl rfl ?_
      refine sy_ldh one_4 rfl (hc79 4 _ rfl) rfl rfl ?_
      refine sy_neb Try.underlying4 rfl rfl rfl rfl ?_
      refine sy_pickT rfl rfl rfl rfl ?_
      refine sy_pickF rfl rfl rfl rfl ?_
      refine sy_setF (d := 84) rfl rfl (by first | rfl | (simp; done)) ?_
      refine sy_nil rfl ?_
      refine ny_next ?_
      refine cy_condF rfl ?_
      refine cy_skip ?_
      refine ny_blockN ?_
      refine ny_next ?_
      refine cy_region ?_
      refine sy_move rfl rfl rfl ?_
      refine sy_addi (z := ((i + 1 : Nat) : Int)) rfl rfl (by omega) (by omega) (by omega) rfl rfl ?_
      refine sy_assign rfl rfl rfl ?_
      refine sy_nil rfl ?_
      refine ny_roundK [0, 1, 2] (i + 1) [] (show i + 1 ≤ ts.length by omega) (show ts.length - (i + 1) < ts.length - i by omega) rfl ⟨rfl, trivial⟩ rfl rfl
    · refine sy_skip rfl rfl rfl ?_
      refine sy_skip rfl rfl rfl ?_
      refine sy_skip rfl rfl rfl ?_
      refine sy_skip rfl rfl rfl ?_
      refine sy_skip rfl rfl rfl ?_
      refine sy_skip rfl rfl rfl ?_
      refine sy_skip rfl rfl rfl ?_
      refine sy_skip rfl rfl rfl ?_
      refine sy_skip rfl rfl rfl ?_
      refine sy_skip rfl rfl rfl ?_
      refine sy_skip rfl rfl rfl ?_
      refine sy_pickF rfl rfl rfl rfl ?_
      refine sy_pickF rfl rfl rfl rfl ?_
      refine sy_setF (d := 84) rfl rfl (by first | rfl | (simp; done)) ?_
      refine sy_nil rfl ?_
      refine ny_next ?_
      refine cy_condF rfl ?_
      refine cy_skip ?_
      refine ny_blockN ?_
      refine ny_next ?_
      refine cy_region ?_
      refine sy_move rfl rfl rfl ?_
      refine sy_addi (z := ((i + 1 : Nat) : Int)) rfl rfl (by omega) (by omega) (by omega) rfl rfl ?_
      refine sy_assign rfl rfl rfl ?_
      refine sy_nil rfl ?_
      refine ny_roundK [0, 1, 2] (i + 1) [] (show i + 1 ≤ ts.length by omega) (show ts.length - (i + 1) < ts.length - i by omega) rfl ⟨rfl, trivial⟩ rfl rfl
  · refine cy_exit ?_
    refine ny_thenE ?_
    refine ny_thenE ?_
    refine ny_blockX ?_
    refine ny_next ?_
    refine cy_seq ?_
    refine cy_region ?_
    refine sy_assign rfl rfl rfl ?_
    refine sy_nil rfl ?_
    refine ny_next ?_
    refine cy_ret ?_
    refine ny_finR (res1 rfl rfl) (fun w hs => ⟨?_, hs.frm⟩)
    rfl
theorem same_c2 (ts : List Tk) (A B : Option Addr) (n1 n2 cA cB : Nat) (tg : Bool) (h : Hp) (hA : RowsAt h A 5 (ts.map tkC)) (hB : RowsAt h B 5 (ts.map tkC)) (h1 : n1 = ts.length) (h2 : n2 = ts.length) (hz : ts.length ≤ 140737488355328) : C0 Try.prog 12 [.slice A n1 cA, .slice B n2 cB, .bool tg] h (.bool true) := by
  subst h1 h2
  exact same_c ts A B cA cB tg h hA hB hz
end Go.Proofs.Ytdbeiaohibgmeaa

/- The engine, the plain laws and the walks of this seat, part 6: what the functions answer. Conditions: as each says; printed by programs of this session. -/
import Derived.Deep.Slices
import Derived.Test.YtanhhihechakhaaDoorProg
import Derived.Test.YtanhhihechakhaaDoorMe
set_option linter.unusedVariables false
set_option linter.unusedSimpArgs false
namespace Go.Proofs.YtanhhihechakhaaDoor.E
open Go.ChangeShapes Go.WideShapes Go.ChangeAt Go.RowKit
def Wt {H : Type} (P : Program) (t : TypeId) (d : DataW H) : Prop := ∀ x ∈ d.weights P t, x ≤ reachBytes
theorem wt_all {H : Type} {P : Program} {e : TypeId} : ∀ {ds : List (DataW H)}, (∀ x ∈ DataW.weightsAll P e ds, x ≤ reachBytes) → ∀ d ∈ ds, Wt P e d
 | [], _, d, hd => (List.not_mem_nil hd).elim
 | y :: ds, h, d, hd => by
  unfold DataW.weightsAll at h
  rcases List.mem_cons.1 hd with rfl | hd
  · exact fun x hx => h x (List.mem_append_left _ hx)
  · exact wt_all (fun x hx => h x (List.mem_append_right _ hx)) d hd
theorem wt_each {H : Type} {P : Program} : ∀ {ts : List TypeId} {ds : List (DataW H)}, (∀ x ∈ DataW.weightsEach P ts ds, x ≤ reachBytes) → ∀ (j : Nat) (t : TypeId) (d : DataW H), ts[j]? = some t → ds[j]? = some d → Wt P t d
 | [], _, _, j, t, d, ht, _ => by simp at ht
 | _ :: _, [], _, j, t, d, _, hd => by simp at hd
 | t0 :: ts, d0 :: ds, h, j, t, d, ht, hd => by
  unfold DataW.weightsEach at h
  cases j with
  | zero =>
   simp only [List.getElem?_cons_zero, Option.some.injEq] at ht hd
   subst ht hd
   exact fun x hx => h x (List.mem_append_left _ hx)
  | succ j => exact wt_each (fun x hx => h x (List.mem_append_right _ hx)) j t d (by simpa using ht) (by simpa using hd)
theorem wt_slice {H : Type} {P : Program} {t e : TypeId} {elems spare : List (DataW H)} (hs : P.underlying t = some (.slice e)) (h : Wt P t (.slice elems spare)) : elems.length * P.bytesOf e ≤ reachBytes ∧ ∀ d ∈ elems, Wt P e d := by
 unfold Wt at h
 unfold DataW.weights at h
 rw [hs] at h
 simp only at h
 refine ⟨Nat.le_trans (Nat.mul_le_mul_right _ (Nat.le_add_right _ _)) (h _ (List.mem_cons_self)), wt_all fun x hx => h x (List.mem_cons_of_mem _ (List.mem_append_left _ hx))⟩
theorem wt_of {H : Type} {P : Program} {ts : List TypeId} {ds : List (DataW H)} (h : (DataW.weightsEach P ts ds).all (· ≤ reachBytes) = true) : ∀ x ∈ DataW.weightsEach P ts ds, x ≤ reachBytes := fun x hx => by
 have := List.all_eq_true.1 h x hx
 simpa using this
theorem open_rows {H : Type} {enc : TypeId × Value → H} {P : Program} {W : World} {t e : TypeId} {sz fuel : Nat} {cs : List Value} {x : DataW H × List MemPlace} {α : Type} {fc : α → List Value} {good : α → Prop} (ht : P.underlying t = some (.slice e)) (hce : P.cellsOf e = sz) (hsz : 0 < sz)
    (hf : DataW.trod enc P W 0 (fun _ => true) true fuel t cs = some x) (hw : Wt P t x.1)
    (key : ∀ (n : Nat) (cs : List Value) (x : DataW H × List MemPlace), n < fuel → DataW.trod enc P W 0 (fun _ => true) true n e cs = some x → Wt P e x.1 → ∃ a, cs = fc a ∧ good a) :
    ∃ (A : Option Addr) (l c : Nat) (es : List α), cs = [.slice A l c] ∧ l ≤ c ∧ c ≤ maxLen ∧ es.length = l ∧ RowsAt (hpOf W) A sz (es.map fc) ∧ (∀ a ∈ es, good a) ∧ l * P.bytesOf e ≤ reachBytes := by
 classical
 rcases DataW.trod_slice ht hf with ⟨h0, h1⟩ | ⟨a, l, c, elems, rest, n, hn, h0, hx, _, hlc, hcm, hlen, hel, _, _⟩
 · subst h0
   exact ⟨none, 0, 0, [], rfl, Nat.le_refl _, by simp [maxLen], rfl, fun j x hj => by simp at hj, fun _ h => (List.not_mem_nil h).elim, by simp⟩
 · subst h0 hx
   obtain ⟨hw1, hw2⟩ := wt_slice ht hw
   have hk : ∀ i, i < l → ∃ y : α, good y ∧ (fc y).length = sz ∧ ∀ j u, (fc y)[j]? = some u → W.cell? ((a.add (i * sz)).add j) = some u := fun i hi => by
    have h2 := hel i hi
    have h3 : elems[i]? = some (elems[i]'(by omega)) := List.getElem?_eq_getElem _
    rw [h3, hce] at h2
    obtain ⟨cs', h4, h5⟩ := Option.bind_eq_some_iff.1 h2
    obtain ⟨_, h6, h7⟩ := World.cells?_some h4
    obtain ⟨y, rfl, hg⟩ := key n cs' _ (by omega) h5 (hw2 _ (List.mem_map.2 ⟨_, List.mem_of_getElem? h3, rfl⟩))
    exact ⟨y, hg, h6, fun j u hj => (h7 j (by have := (List.getElem?_eq_some_iff.1 hj).1; omega)).trans hj⟩
   refine ⟨some a, l, c, List.ofFn fun i : Fin l => Classical.choose (hk i.1 i.2), rfl, hlc, hcm, by simp, ?_, ?_, by simpa [hlen] using hw1⟩
   · intro j cs hj
     rw [List.getElem?_map, Option.map_eq_some_iff] at hj
     obtain ⟨y, hy, rfl⟩ := hj
     have hjl : j < l := by
      have := (List.getElem?_eq_some_iff.1 hy).1
      simpa using this
     have hye : y = Classical.choose (hk j hjl) := by
      have h8 := (List.getElem?_eq_some_iff.1 hy).2
      rw [List.getElem_ofFn] at h8
      exact h8.symm
     obtain ⟨_, g2, g3⟩ := Classical.choose_spec (hk j hjl)
     rw [← hye] at g2 g3
     have hsp : a.spot = none := by
      obtain ⟨y0, _, q2, q3⟩ := hk 0 (by omega)
      have h0 : (fc y0)[0]? = some ((fc y0)[0]'(by omega)) := List.getElem?_eq_getElem _
      have z0 := q3 0 _ h0
      have e0 : (a.add (0 * sz)).add 0 = a := by simp [Addr.add]
      rw [e0] at z0
      unfold World.cell? at z0
      split at z0
      · split at z0
        · cases z0
        · rename_i h11
          simpa using h11
      · cases z0
     obtain ⟨b, off, sp⟩ := a
     simp only at hsp
     subst hsp
     refine ⟨b, off, rfl, fun jj u hu => ?_⟩
     have := g3 jj u hu
     rw [Addr.add_at, Addr.add_at] at this
     exact this
   · intro y hy
     obtain ⟨i, rfl⟩ := List.mem_ofFn.1 hy
     exact (Classical.choose_spec (hk i.1 i.2)).1
end Go.Proofs.YtanhhihechakhaaDoor.E
set_option linter.unusedVariables false
set_option linter.unusedSimpArgs false
namespace Go.Proofs.YtanhhihechakhaaDoor
open Go.ChangeShapes Go.WideShapes Go.ChangeAt Go.RowKit Go.Proofs.YtanhhihechakhaaDoor.E
def byC (b : UInt8) : List Value := [.int .u8 (b.toNat : Int)]
theorem open_bys {H : Type} {enc : TypeId × Value → H} {P : Program} {W : World} {t e : TypeId} {b0 : Nat} {r : Go.Reach} {v : Value} {d : DataW H} {ps : List MemPlace} (ht : P.underlying t = some (.slice e)) (he : P.underlying e = some (.int .u8)) (hce : P.cellsOf e = 1) (hval : Value.okWide P W r b0 t v) (h : DataW.Trod enc P W 0 (fun _ => true) true t v d ps) (hw : Wt P t d) :
    ∃ (A : Option Addr) (l c : Nat) (es : List UInt8), v = .slice A l c ∧ l ≤ c ∧ es.length = l ∧ RowsAt (hpOf W) A 1 (es.map byC) := by
 obtain ⟨a, m, c, rfl⟩ := okWide_slice ht hval
 obtain ⟨fuel, hf⟩ := h
 obtain ⟨A, l, c', es, e1, hlc, _, hl, hr, hg, hby⟩ := open_rows (fc := byC) (good := fun _ => True) ht hce (by decide) hf hw fun n cs x _ h5 h6 => by
  obtain ⟨k, e0, _, w0⟩ := DataW.trod_int he h5
  obtain ⟨c, rfl⟩ := u8_of_wf w0
  exact ⟨c, e0, trivial⟩
 have e2 : [Value.slice a m c] = [Value.slice A l c'] := e1
 simp only [List.cons.injEq, and_true] at e2
 exact ⟨A, l, c', es, e2, hlc, hl, hr⟩
end Go.Proofs.YtanhhihechakhaaDoor
set_option linter.unusedVariables false
set_option linter.unusedSimpArgs false
namespace Go.Proofs.YtanhhihechakhaaDoor
open Go.RowKit Go.Proofs.YtanhhihechakhaaDoor.E Go.Proofs.YtanhhihechakhaaDoor.ReplP Go.Proofs.YtanhhihechakhaaDoor.TokP Go.Proofs.YtanhhihechakhaaDoor.TermP Go.Proofs.YtanhhihechakhaaDoor.WrP Go.Proofs.YtanhhihechakhaaDoor.ReadP Go.Proofs.YtanhhihechakhaaDoor.OpsP
def dgN (u : UInt8) : Nat := u.toNat % 10
def itOf (u : UInt8) : It := (decide ((u.toNat : Int) ≥ 128), dgN u)
def preC : List UInt8 → List UInt8
 | [] => []
 | u :: r => digC (dgN u) :: ((r.map itOf).flatMap fun x => itC x.2 x.1)
def preT : List UInt8 → Tm
 | [] => numT 0
 | u :: r => sumTm (numT ((dgN u : Nat) : Int)) (r.map itOf)
theorem dgN_lt (u : UInt8) : dgN u < 10 := Nat.mod_lt _ (by decide)
theorem dig_byte (u : UInt8) : ((48 + dgN u : Nat) : Int) = ((digC (dgN u)).toNat : Int) := by
 have := fig_byte (dgN_lt u)
 unfold digC
 rw [this]
theorem preC_snoc {l : List UInt8} (h : l ≠ []) (u : UInt8) : preC (l ++ [u]) = preC l ++ itC (dgN u) (decide ((u.toNat : Int) ≥ 128)) := by
 cases l with
 | nil => exact absurd rfl h
 | cons v r => simp [preC, itOf]
theorem preT_snoc {l : List UInt8} (h : l ≠ []) (u : UInt8) : preT (l ++ [u]) = itT (preT l) (dgN u) (decide ((u.toNat : Int) ≥ 128)) := by
 cases l with
 | nil => exact absurd rfl h
 | cons v r =>
  show sumTm _ ((r ++ [u]).map itOf) = _
  rw [List.map_append, List.map_cons, List.map_nil, sumTm_snoc]
  rfl
theorem take_ne {l : List UInt8} {i : Nat} (h : i ≤ l.length) (h0 : ¬ i = 0) : l.take i ≠ [] := fun h9 => by
 have := congrArg List.length h9
 rw [List.length_take, List.length_nil] at this
 omega
theorem preC_len : ∀ l : List UInt8, (preC l).length ≤ 8 * l.length
 | [] => Nat.zero_le _
 | u :: r => by
  have h1 : ∀ l : List It, (l.flatMap fun x => itC x.2 x.1).length ≤ 8 * l.length := fun l => by
   induction l with
   | nil => exact Nat.zero_le _
   | cons x l ih =>
    rw [List.flatMap_cons, List.length_append, List.length_cons]
    have : (itC x.2 x.1).length ≤ 8 := by cases x.1 <;> simp [itC]
    omega
  have := h1 (r.map itOf)
  rw [List.length_map] at this
  show ((r.map itOf).flatMap fun x => itC x.2 x.1).length + 1 ≤ 8 * (r.length + 1)
  omega
theorem sums_of {es : List UInt8} (h0 : 1 ≤ es.length) (h1 : es.length ≤ 25) : allA 1 (preC es ++ [46]) = .ok [preT es] := by
 cases es with
 | nil => simp at h0
 | cons u r =>
  have e : preC (u :: r) ++ [46] = digC (dgN u) :: sumC (r.map itOf) := by rw [sumC_eq]; rfl
  rw [e]
  exact sums_read (dgN_lt u) (fun x hx => by
   obtain ⟨v, _, rfl⟩ := List.mem_map.1 hx
   exact dgN_lt v) (by rw [List.length_map]; simp at h1; omega)
theorem bz (l : List UInt8) : (⟨l.toArray⟩ : ByteArray).size = l.length := by simp [ByteArray.size]
theorem st_snoc2 {l : List UInt8} {i : Nat} {u : UInt8} (h : l[i]? = some u) (h0 : ¬ i = 0) (hb : decide ((u.toNat : Int) ≥ 128) = true) : (⟨(preC (l.take i)).toArray⟩ : ByteArray) ++ ⟨#[32, 43, 32, 50, 32, 42, 32]⟩ ++ ⟨#[digC (dgN u)]⟩ = ⟨(preC (l.take (i + 1))).toArray⟩ := by
 have hl := (List.getElem?_eq_some_iff.1 h).1
 refine ba_inj ?_
 rw [take_snoc h, preC_snoc (take_ne (by omega) h0), hb, ba_cat, ba_cat, List.append_assoc]
 rfl
theorem st_snoc1 {l : List UInt8} {i : Nat} {u : UInt8} (h : l[i]? = some u) (h0 : ¬ i = 0) (hb : decide ((u.toNat : Int) ≥ 128) = false) : (⟨(preC (l.take i)).toArray⟩ : ByteArray) ++ ⟨#[32, 45, 32]⟩ ++ ⟨#[digC (dgN u)]⟩ = ⟨(preC (l.take (i + 1))).toArray⟩ := by
 have hl := (List.getElem?_eq_some_iff.1 h).1
 refine ba_inj ?_
 rw [take_snoc h, preC_snoc (take_ne (by omega) h0), hb, ba_cat, ba_cat, List.append_assoc]
 rfl
theorem st_first {l : List UInt8} {u : UInt8} (h : l[0]? = some u) : (⟨#[digC (dgN u)]⟩ : ByteArray) = ⟨(preC (l.take 1)).toArray⟩ ∧ preT (l.take 1) = numT ((dgN u : Nat) : Int) := by
 cases l with
 | nil => cases h
 | cons v r =>
  simp only [List.getElem?_cons_zero, Option.some.injEq] at h
  subst h
  exact ⟨rfl, rfl⟩
set_option maxRecDepth 100000 in
theorem sums07_c (es : List UInt8) (A : Option Addr) (c : Nat) (h : Hp) (hR : RowsAt h A 1 (es.map byC)) (hh : Hdl h) : C0 Tryd.prog 5 [.slice A es.length c] h (.bool true) := by
 refine enter0 Tryd.func5 rfl rfl rfl (fun w => ?_)
 refine cy_seq ?_
 refine cy_region ?_
 refine sy_assign rfl rfl rfl ?_
 refine sy_nil rfl ?_
 refine ny_next ?_
 refine cy_seq ?_
 refine cy_region ?_
 refine sy_call rfl call_9 rfl (shown07_c _ hh) rfl rfl ?_
 refine sy_setT (d := 12) rfl rfl rfl ?_
 refine sy_assign rfl rfl rfl ?_
 refine sy_nil rfl ?_
 refine ny_next ?_
 refine cy_seq ?_
 refine cy_seq ?_
 refine cy_region ?_
 refine sy_move rfl rfl rfl ?_
 refine sy_len rfl (len_slice Tryd.underlying36 _ _ _) rfl rfl ?_
 refine sy_cmp rfl rfl rfl rfl rfl ?_
 refine sy_move rfl rfl rfl ?_
 refine sy_cond (d := 16) _ rfl rfl (fun hg16 => ?_) (fun hg16 => ?_)
 · refine sy_skip rfl rfl rfl ?_
   refine sy_skip rfl rfl rfl ?_
   refine sy_skip rfl rfl rfl ?_
   refine sy_pickT rfl rfl rfl rfl ?_
   refine sy_nil rfl ?_
   refine ny_next ?_
   refine cy_condT rfl ?_
   refine cy_seq ?_
   refine cy_region ?_
   refine sy_move rfl rfl rfl ?_
   refine sy_assign rfl rfl rfl ?_
   refine sy_nil rfl ?_
   refine ny_next ?_
   refine cy_ret ?_
   refine ny_thenR ?_
   refine ny_finR (res1 rfl rfl) (fun w hs2 => ⟨rfl, hs2.frm⟩)
 · refine sy_move rfl rfl rfl ?_
   refine sy_len rfl (len_slice Tryd.underlying36 _ _ _) rfl rfl ?_
   refine sy_cmp rfl rfl rfl rfl rfl ?_
   refine sy_pickF rfl rfl rfl rfl ?_
   refine sy_nil rfl ?_
   refine ny_next ?_
   refine cy_cond rfl (fun hc20 => ?_) (fun hc20 => ?_)
   · refine cy_seq ?_
     refine cy_region ?_
     refine sy_move rfl rfl rfl ?_
     refine sy_assign rfl rfl rfl ?_
     refine sy_nil rfl ?_
     refine ny_next ?_
     refine cy_ret ?_
     refine ny_thenR ?_
     refine ny_finR (res1 rfl rfl) (fun w hs2 => ⟨rfl, hs2.frm⟩)
   · have hl1 : 1 ≤ es.length := by
      have h9 : ((es.length : Int) == 0) = false := by simpa using hg16
      have h8 := ne_of_beq_false h9
      omega
     have hl2 : es.length ≤ 25 := by have := of_decide_eq_false hc20; omega
     refine cy_skip ?_
     refine ny_next ?_
     refine cy_seq ?_
     refine cy_region ?_
     refine sy_assign rfl rfl rfl ?_
     refine sy_nil rfl ?_
     refine ny_next ?_
     refine cy_seq ?_
     refine cy_region ?_
     refine sy_call rfl call_15 rfl (num_c _ _) rfl rfl ?_
     refine sy_alloc zer_30 rfl rfl (fun b5 hb5 hM5 => ?_) (by simp)
     first | refine sy_stl 0 sz_30 rfl rfl rfl rfl rfl rfl rfl rfl ?_ | refine sy_stl 1 sz_30 rfl rfl rfl rfl rfl rfl rfl rfl ?_ | refine sy_stl 2 sz_30 rfl rfl rfl rfl rfl rfl rfl rfl ?_ | refine sy_stl 3 sz_30 rfl rfl rfl rfl rfl rfl rfl rfl ?_ | refine sy_stl 4 sz_30 rfl rfl rfl rfl rfl rfl rfl rfl ?_ | refine sy_stl 5 sz_30 rfl rfl rfl rfl rfl rfl rfl rfl ?_
     refine sy_nil rfl ?_
     refine ny_next ?_
     refine cy_seq ?_
     refine cy_seq ?_
     refine cy_region ?_
     refine sy_assign rfl rfl rfl ?_
     refine sy_nil rfl ?_
     refine ny_next ?_
     refine cy_block ?_
     refine cy_loopK (ι := (Nat × GT) × Hp) [0, 3, 5] rfl (fun z => z.1.1 ≤ es.length ∧ z.1.2.tm = preT (es.take z.1.1) ∧ h.Le z.2 ∧ (Lies z.2 z.1.2 ∧ Fits z.1.2)) (fun z => es.length - z.1.1) (fun z => [(4, .string ⟨(preC (es.take z.1.1)).toArray⟩), (6, .int .i64 (z.1.1 : Int))]) (fun z => z.2) (fun z => [.blk b5 (.cells (GT.cells z.1.2).toArray 30 (0, 0))]) ((0, (GT.mk 2 0 ⟨#[]⟩ none 0 [])), h) [0] ⟨Nat.zero_le _, (by rw [tm_leaf]; rfl), Hp.Le.refl _, ⟨lies_leaf _ _ _ _, fits_leaf (by decide) (by decide) (by first | decide | omega) (by first | decide | omega) (by decide)⟩⟩ ⟨rfl, rfl, trivial⟩ rfl rfl ?_
     rintro ⟨⟨i, g⟩, hy⟩ ⟨hI, hgt, hlez, hlg⟩
     simp only at hI hgt hlez hlg ⊢
     have hRz := hR.le hlez
     refine cy_seq ?_
     refine cy_seq ?_
     refine cy_region ?_
     refine sy_move rfl rfl rfl ?_
     refine sy_move rfl rfl rfl ?_
     refine sy_len rfl (len_slice Tryd.underlying36 _ _ _) rfl rfl ?_
     refine sy_cmp rfl rfl rfl rfl rfl ?_
     refine sy_nil rfl ?_
     refine ny_next ?_
     refine cy_cond rfl (fun hc26 => ?_) (fun hc26 => ?_)
     · have hlti : i < es.length := by have := of_decide_eq_true hc26; omega
       refine cy_skip ?_
       refine ny_next ?_
       refine cy_seq ?_
       refine cy_block ?_
       refine cy_seq ?_
       refine cy_region ?_
       refine sy_move rfl rfl rfl ?_
       refine sy_move rfl rfl rfl ?_
       refine sy_idxR (i := i) (fc := byC) (es := es) els_36 rfl rfl hRz rfl (by omega) rfl rfl (fun e31 b31 o31 he31 hA31 hc31 => ?_)
       refine sy_ldh one_5 rfl (hc31 0 _ rfl) rfl rfl ?_
       refine sy_rem8 (a := e31.toNat) (b := 10) rfl rfl (by decide) (by decide) (by have := e31.toNat_lt; omega) rfl rfl ?_
       refine sy_convK (z := ((dgN e31 : Nat) : Int)) Tryd.underlying5 Tryd.underlying2 rfl (by have := dgN_lt e31; rw [IntWalk.i64_in _ ⟨by omega, by omega⟩]; rfl) rfl rfl ?_
       refine sy_call rfl call_15 rfl (num_c _ _) rfl rfl ?_
       refine sy_alloc zer_30 rfl rfl (fun b7 hb7 hM7 => ?_) (by simp)
       first | refine sy_stl 0 sz_30 rfl rfl rfl rfl rfl rfl rfl rfl ?_ | refine sy_stl 1 sz_30 rfl rfl rfl rfl rfl rfl rfl rfl ?_ | refine sy_stl 2 sz_30 rfl rfl rfl rfl rfl rfl rfl rfl ?_ | refine sy_stl 3 sz_30 rfl rfl rfl rfl rfl rfl rfl rfl ?_ | refine sy_stl 4 sz_30 rfl rfl rfl rfl rfl rfl rfl rfl ?_ | refine sy_stl 5 sz_30 rfl rfl rfl rfl rfl rfl rfl rfl ?_
       refine sy_nil rfl ?_
       refine ny_next ?_
       refine cy_seq ?_
       refine cy_region ?_
       refine sy_move rfl rfl rfl ?_
       refine sy_move rfl rfl rfl ?_
       refine sy_idxR (i := i) (fc := byC) (es := es) els_36 rfl rfl hRz rfl (by omega) rfl rfl (fun e38 b38 o38 he38 hA38 hc38 => ?_)
       obtain rfl : e31 = e38 := Option.some.inj (he31.symm.trans he38)
       refine sy_ldh one_5 rfl (hc38 0 _ rfl) rfl rfl ?_
       refine sy_rem8 (a := e31.toNat) (b := 10) rfl rfl (by decide) (by decide) (by have := e31.toNat_lt; omega) rfl rfl ?_
       refine sy_addK (z := ((48 + dgN e31 : Nat) : Int)) rfl rfl (by have := dgN_lt e31; rw [IntWalk.u8_in _ ⟨by omega, by omega⟩]; unfold dgN; omega) rfl rfl ?_
       refine sy_buildSlice rfl (fun w => bsl_36_1_0 w) rfl rfl (fun b42 hb42 hM42 => ?_) (by simp)
       refine sy_byte1 (u := digC (dgN e31)) 0 Tryd.underlying36 Tryd.underlying5 Tryd.underlying9 rfl rfl (dig_byte e31) rfl rfl ?_
       refine sy_assign rfl rfl rfl ?_
       refine sy_nil rfl ?_
       refine ny_next ?_
       refine cy_seq ?_
       refine cy_region ?_
       refine sy_move rfl rfl rfl ?_
       refine sy_cmp rfl rfl rfl rfl rfl ?_
       refine sy_nil rfl ?_
       refine ny_next ?_
       refine cy_cond rfl (fun hc45 => ?_) (fun hc45 => ?_)
       · have hi0 : i = 0 := by have h9 := eq_of_beq hc45; omega
         refine cy_seq ?_
         refine cy_region ?_
         refine sy_move rfl rfl rfl ?_
         refine sy_assign rfl rfl rfl ?_
         refine sy_nil rfl ?_
         refine ny_next ?_
         refine cy_region ?_
         first | refine sy_ldar 0 agg_30 rfl rfl rfl rfl rfl ?_ | refine sy_ldar 1 agg_30 rfl rfl rfl rfl rfl ?_ | refine sy_ldar 2 agg_30 rfl rfl rfl rfl rfl ?_ | refine sy_ldar 3 agg_30 rfl rfl rfl rfl rfl ?_ | refine sy_ldar 4 agg_30 rfl rfl rfl rfl rfl ?_ | refine sy_ldar 5 agg_30 rfl rfl rfl rfl rfl ?_
         first | refine sy_stl 0 sz_30 rfl rfl rfl rfl rfl rfl rfl rfl ?_ | refine sy_stl 1 sz_30 rfl rfl rfl rfl rfl rfl rfl rfl ?_ | refine sy_stl 2 sz_30 rfl rfl rfl rfl rfl rfl rfl rfl ?_ | refine sy_stl 3 sz_30 rfl rfl rfl rfl rfl rfl rfl rfl ?_ | refine sy_stl 4 sz_30 rfl rfl rfl rfl rfl rfl rfl rfl ?_ | refine sy_stl 5 sz_30 rfl rfl rfl rfl rfl rfl rfl rfl ?_
         refine sy_nil rfl ?_
         refine ny_blockN ?_
         refine ny_next ?_
         refine cy_region ?_
         refine sy_move rfl rfl rfl ?_
         refine sy_addi (z := ((i + 1 : Nat) : Int)) rfl rfl (by omega) (by omega) (by omega) rfl rfl ?_
         refine sy_assign rfl rfl rfl ?_
         refine sy_nil rfl ?_
         refine ny_roundK [0, 3, 5] ((i + 1, (GT.mk 2 ((dgN e31 : Nat) : Int) ⟨#[]⟩ none 0 [])), hy) [0] ⟨(show i + 1 ≤ es.length by omega), (by show _ = preT (es.take (i + 1)); rw [hi0, (st_first (by rw [← hi0]; exact he31)).2, tm_leaf]; rfl), hlez, ⟨lies_leaf _ _ _ _, fits_leaf (by decide) (by decide) (by have := dgN_lt e31; omega) (by have := dgN_lt e31; omega) (by decide)⟩⟩ (show es.length - (i + 1) < es.length - i by omega) rfl ⟨congrArg (fun z => some (Value.string z)) (by rw [hi0]; exact (st_first (by rw [← hi0]; exact he31)).1), rfl, trivial⟩ rfl rfl
       · have hi0 : ¬ i = 0 := fun h9 => by rw [h9] at hc45; exact absurd hc45 (by decide)
         refine cy_seq ?_
         refine cy_region ?_
         refine sy_move rfl rfl rfl ?_
         refine sy_move rfl rfl rfl ?_
         refine sy_idxR (i := i) (fc := byC) (es := es) els_36 rfl rfl hRz rfl (by omega) rfl rfl (fun e50 b50 o50 he50 hA50 hc50 => ?_)
         obtain rfl : e31 = e50 := Option.some.inj (he31.symm.trans he50)
         refine sy_ldh one_5 rfl (hc50 0 _ rfl) rfl rfl ?_
         refine sy_cmp rfl rfl rfl rfl rfl ?_
         refine sy_nil rfl ?_
         refine ny_next ?_
         refine cy_cond rfl (fun hc52 => ?_) (fun hc52 => ?_)
         · have hb52 : decide ((e31.toNat : Int) ≥ 128) = true := hc52
           refine cy_seq ?_
           refine cy_region ?_
           refine sy_move rfl rfl rfl ?_
           refine sy_cat rfl rfl (by have h9 := preC_len (es.take i); rw [List.length_take] at h9; (try simp only [ByteArray.size_append]); simp only [bz, List.length_cons, List.length_nil]; omega) rfl rfl ?_
           refine sy_move rfl rfl rfl ?_
           refine sy_cat rfl rfl (by have h9 := preC_len (es.take i); rw [List.length_take] at h9; (try simp only [ByteArray.size_append]); simp only [bz, List.length_cons, List.length_nil]; omega) rfl rfl ?_
           refine sy_assign rfl rfl rfl ?_
           refine sy_nil rfl ?_
           refine ny_next ?_
           refine cy_frz 1 rfl (by simp) (fun h16 hle16 hbx7 => ?_)
           replace hlg : Lies h16 g ∧ Fits g := ⟨hlg.1.le hle16, hlg.2⟩
           refine cy_regionA mixed ?_
           refine zy_q 2 rfl (by kernel_rfl) (fun hB16_2 => ?_)
           refine sy_ldah (vs := GT.cells (GT.mk 2 ((dgN e31 : Nat) : Int) ⟨#[]⟩ none 0 [])) agg_30 rfl rfl (Hp.blk hbx7) rfl rfl ?_
           refine sy_nil1 (ny_zq hB16_2 ?_)
           refine zy_2 0 1 (by kernel_rfl) ?_ ?_
           · refine zop_run rfl rfl (fun hB16_0 => ?_)
             first | refine sy_ldar 0 agg_30 rfl rfl rfl rfl rfl ?_ | refine sy_ldar 1 agg_30 rfl rfl rfl rfl rfl ?_ | refine sy_ldar 2 agg_30 rfl rfl rfl rfl rfl ?_ | refine sy_ldar 3 agg_30 rfl rfl rfl rfl rfl ?_ | refine sy_ldar 4 agg_30 rfl rfl rfl rfl rfl ?_ | refine sy_ldar 5 agg_30 rfl rfl rfl rfl rfl ?_
             refine sy_nil rfl (ny_zy hB16_0 (Hp.Le.refl _) ?_)
             refine zy_1 1 (by kernel_rfl) ?_
             refine zop_run rfl rfl (fun hB16_1 => ?_)
             refine sy_call rfl call_15 rfl (num_c _ _) rfl rfl ?_
             refine sy_nil rfl (ny_zy hB16_1 (Hp.Le.refl _) ?_)
             refine zy_1 3 (by kernel_rfl) ?_
             refine zop_run rfl rfl (fun hB16_3 => ?_)
             refine sy_buildSlice (cs := [(GT.mk 2 2 ⟨#[]⟩ none 0 []), (GT.mk 2 ((dgN e31 : Nat) : Int) ⟨#[]⟩ none 0 [])].flatMap GT.cells) rfl (fun w => bsl_23_2_0x1 w) rfl rfl (fun b60 hb60 hM60 => ?_) (by simp)
             refine sy_frz 0 rfl (by simp) (fun h60 hle60 hbx60 => ?_)
             have hr60 : RowsAt h60 (some ⟨b60, 0, none⟩) 4 ([(GT.mk 2 2 ⟨#[]⟩ none 0 []), (GT.mk 2 ((dgN e31 : Nat) : Int) ⟨#[]⟩ none 0 [])].map GT.cells) := rows_blk (by decide) (GT.cells_len _) hbx60
             refine sy_nil rfl (ny_zy hB16_3 hle60 ?_)
             refine zy_1 4 (by kernel_rfl) ?_
             refine zop_run rfl rfl (fun hB16_4 => ?_)
             refine sy_callx call_16 rfl (make_c ⟨#[42]⟩ (some ⟨b60, 0, none⟩) 2 [(GT.mk 2 2 ⟨#[]⟩ none 0 []), (GT.mk 2 ((dgN e31 : Nat) : Int) ⟨#[]⟩ none 0 [])] _ rfl hr60 (by simp)) rfl rfl (fun x61 h61 hx61 hle61 => ?_)
             obtain ⟨A61, c61⟩ := x61
             have hlf61 : Lies h61 (GT.mk 3 0 ⟨#[42]⟩ A61 c61 [(GT.mk 2 2 ⟨#[]⟩ none 0 []), (GT.mk 2 ((dgN e31 : Nat) : Int) ⟨#[]⟩ none 0 [])]) ∧ Fits (GT.mk 3 0 ⟨#[42]⟩ A61 c61 [(GT.mk 2 2 ⟨#[]⟩ none 0 []), (GT.mk 2 ((dgN e31 : Nat) : Int) ⟨#[]⟩ none 0 [])]) := ⟨.intro _ _ _ _ _ _ hx61.2 hx61.1 (fun t h9 => (duo (h := h61) ⟨lies_leaf _ _ _ _, fits_leaf (by decide) (by decide) (by first | decide | omega) (by first | decide | omega) (by decide)⟩ ⟨lies_leaf _ _ _ _, fits_leaf (by decide) (by decide) (by have := dgN_lt e31; omega) (by have := dgN_lt e31; omega) (by decide)⟩ t h9).1), fits_kids (by decide) (by decide) (by decide) (by decide) (by decide) (by simp) (fun t h9 => (duo (h := h61) ⟨lies_leaf _ _ _ _, fits_leaf (by decide) (by decide) (by first | decide | omega) (by first | decide | omega) (by decide)⟩ ⟨lies_leaf _ _ _ _, fits_leaf (by decide) (by decide) (by have := dgN_lt e31; omega) (by have := dgN_lt e31; omega) (by decide)⟩ t h9).2)⟩
             refine sy_nil rfl (ny_zy hB16_4 hle61 ?_)
             refine zy_1 5 (by kernel_rfl) ?_
             refine zop_run rfl rfl (fun hB16_5 => ?_)
             refine sy_buildSlice (cs := [g, (GT.mk 3 0 ⟨#[42]⟩ A61 c61 [(GT.mk 2 2 ⟨#[]⟩ none 0 []), (GT.mk 2 ((dgN e31 : Nat) : Int) ⟨#[]⟩ none 0 [])])].flatMap GT.cells) rfl (fun w => bsl_23_2_0x1 w) rfl rfl (fun b62 hb62 hM62 => ?_) (by simp)
             refine sy_frz 0 rfl (by simp) (fun h62 hle62 hbx62 => ?_)
             have hr62 : RowsAt h62 (some ⟨b62, 0, none⟩) 4 ([g, (GT.mk 3 0 ⟨#[42]⟩ A61 c61 [(GT.mk 2 2 ⟨#[]⟩ none 0 []), (GT.mk 2 ((dgN e31 : Nat) : Int) ⟨#[]⟩ none 0 [])])].map GT.cells) := rows_blk (by decide) (GT.cells_len _) hbx62
             refine sy_nil rfl (ny_zy hB16_5 hle62 ?_)
             refine zy_1 6 (by kernel_rfl) ?_
             refine zop_run rfl rfl (fun hB16_6 => ?_)
             refine sy_callx call_16 rfl (make_c ⟨#[43]⟩ (some ⟨b62, 0, none⟩) 2 [g, (GT.mk 3 0 ⟨#[42]⟩ A61 c61 [(GT.mk 2 2 ⟨#[]⟩ none 0 []), (GT.mk 2 ((dgN e31 : Nat) : Int) ⟨#[]⟩ none 0 [])])] _ rfl hr62 (by simp)) rfl rfl (fun x63 h63 hx63 hle63 => ?_)
             obtain ⟨A63, c63⟩ := x63
             have hlf63 : Lies h63 (GT.mk 3 0 ⟨#[43]⟩ A63 c63 [g, (GT.mk 3 0 ⟨#[42]⟩ A61 c61 [(GT.mk 2 2 ⟨#[]⟩ none 0 []), (GT.mk 2 ((dgN e31 : Nat) : Int) ⟨#[]⟩ none 0 [])])]) ∧ Fits (GT.mk 3 0 ⟨#[43]⟩ A63 c63 [g, (GT.mk 3 0 ⟨#[42]⟩ A61 c61 [(GT.mk 2 2 ⟨#[]⟩ none 0 []), (GT.mk 2 ((dgN e31 : Nat) : Int) ⟨#[]⟩ none 0 [])])]) := ⟨.intro _ _ _ _ _ _ hx63.2 hx63.1 (fun t h9 => (duo (h := h63) ⟨(((hlg.1.le hle60).le hle61).le hle62).le hle63, hlg.2⟩ ⟨(hlf61.1.le hle62).le hle63, hlf61.2⟩ t h9).1), fits_kids (by decide) (by decide) (by decide) (by decide) (by decide) (by simp) (fun t h9 => (duo (h := h63) ⟨(((hlg.1.le hle60).le hle61).le hle62).le hle63, hlg.2⟩ ⟨(hlf61.1.le hle62).le hle63, hlf61.2⟩ t h9).2)⟩
             refine sy_nil rfl (ny_zy hB16_6 hle63 ?_)
             refine zy_1 7 (by kernel_rfl) ?_
             refine zop_run rfl rfl (fun hB16_7 => ?_)
             first | refine sy_stl 0 sz_30 rfl rfl rfl rfl rfl rfl rfl rfl ?_ | refine sy_stl 1 sz_30 rfl rfl rfl rfl rfl rfl rfl rfl ?_ | refine sy_stl 2 sz_30 rfl rfl rfl rfl rfl rfl rfl rfl ?_ | refine sy_stl 3 sz_30 rfl rfl rfl rfl rfl rfl rfl rfl ?_ | refine sy_stl 4 sz_30 rfl rfl rfl rfl rfl rfl rfl rfl ?_ | refine sy_stl 5 sz_30 rfl rfl rfl rfl rfl rfl rfl rfl ?_
             refine sy_nil rfl (ny_zy hB16_7 (Hp.Le.refl _) ?_)
             refine zy_done (by kernel_rfl) ?_
             refine ny_blockN ?_
             refine ny_next ?_
             refine cy_region ?_
             refine sy_move rfl rfl rfl ?_
             refine sy_addi (z := ((i + 1 : Nat) : Int)) rfl rfl (by omega) (by omega) (by omega) rfl rfl ?_
             refine sy_assign rfl rfl rfl ?_
             refine sy_nil rfl ?_
             refine ny_roundK [0, 3, 5] ((i + 1, (GT.mk 3 0 ⟨#[43]⟩ A63 c63 [g, (GT.mk 3 0 ⟨#[42]⟩ A61 c61 [(GT.mk 2 2 ⟨#[]⟩ none 0 []), (GT.mk 2 ((dgN e31 : Nat) : Int) ⟨#[]⟩ none 0 [])])])), h63) [0] ⟨(show i + 1 ≤ es.length by omega), (by show _ = preT (es.take (i + 1)); rw [take_snoc he31, preT_snoc (take_ne hI hi0), hb52, ← hgt]; simp only [GT.tm_mk, List.map_cons, List.map_nil]; rfl), ((((hlez.trans hle16).trans hle60).trans hle61).trans hle62).trans hle63, hlf63⟩ (show es.length - (i + 1) < es.length - i by omega) rfl ⟨congrArg (fun z => some (Value.string z)) (st_snoc2 he31 hi0 hb52), rfl, trivial⟩ rfl rfl
           · refine zop_run rfl rfl (fun hB16_1 => ?_)
             refine sy_call rfl call_15 rfl (num_c _ _) rfl rfl ?_
             refine sy_nil rfl (ny_zy hB16_1 (Hp.Le.refl _) ?_)
             refine zy_2 0 3 (by kernel_rfl) ?_ ?_
             · refine zop_run rfl rfl (fun hB16_0 => ?_)
               first | refine sy_ldar 0 agg_30 rfl rfl rfl rfl rfl ?_ | refine sy_ldar 1 agg_30 rfl rfl rfl rfl rfl ?_ | refine sy_ldar 2 agg_30 rfl rfl rfl rfl rfl ?_ | refine sy_ldar 3 agg_30 rfl rfl rfl rfl rfl ?_ | refine sy_ldar 4 agg_30 rfl rfl rfl rfl rfl ?_ | refine sy_ldar 5 agg_30 rfl rfl rfl rfl rfl ?_
               refine sy_nil rfl (ny_zy hB16_0 (Hp.Le.refl _) ?_)
               refine zy_1 3 (by kernel_rfl) ?_
               refine zop_run rfl rfl (fun hB16_3 => ?_)
               refine sy_buildSlice (cs := [(GT.mk 2 2 ⟨#[]⟩ none 0 []), (GT.mk 2 ((dgN e31 : Nat) : Int) ⟨#[]⟩ none 0 [])].flatMap GT.cells) rfl (fun w => bsl_23_2_0x1 w) rfl rfl (fun b60 hb60 hM60 => ?_) (by simp)
               refine sy_frz 0 rfl (by simp) (fun h60 hle60 hbx60 => ?_)
               have hr60 : RowsAt h60 (some ⟨b60, 0, none⟩) 4 ([(GT.mk 2 2 ⟨#[]⟩ none 0 []), (GT.mk 2 ((dgN e31 : Nat) : Int) ⟨#[]⟩ none 0 [])].map GT.cells) := rows_blk (by decide) (GT.cells_len _) hbx60
               refine sy_nil rfl (ny_zy hB16_3 hle60 ?_)
               refine zy_1 4 (by kernel_rfl) ?_
               refine zop_run rfl rfl (fun hB16_4 => ?_)
               refine sy_callx call_16 rfl (make_c ⟨#[42]⟩ (some ⟨b60, 0, none⟩) 2 [(GT.mk 2 2 ⟨#[]⟩ none 0 []), (GT.mk 2 ((dgN e31 : Nat) : Int) ⟨#[]⟩ none 0 [])] _ rfl hr60 (by simp)) rfl rfl (fun x61 h61 hx61 hle61 => ?_)
               obtain ⟨A61, c61⟩ := x61
               have hlf61 : Lies h61 (GT.mk 3 0 ⟨#[42]⟩ A61 c61 [(GT.mk 2 2 ⟨#[]⟩ none 0 []), (GT.mk 2 ((dgN e31 : Nat) : Int) ⟨#[]⟩ none 0 [])]) ∧ Fits (GT.mk 3 0 ⟨#[42]⟩ A61 c61 [(GT.mk 2 2 ⟨#[]⟩ none 0 []), (GT.mk 2 ((dgN e31 : Nat) : Int) ⟨#[]⟩ none 0 [])]) := ⟨.intro _ _ _ _ _ _ hx61.2 hx61.1 (fun t h9 => (duo (h := h61) ⟨lies_leaf _ _ _ _, fits_leaf (by decide) (by decide) (by first | decide | omega) (by first | decide | omega) (by decide)⟩ ⟨lies_leaf _ _ _ _, fits_leaf (by decide) (by decide) (by have := dgN_lt e31; omega) (by have := dgN_lt e31; omega) (by decide)⟩ t h9).1), fits_kids (by decide) (by decide) (by decide) (by decide) (by decide) (by simp) (fun t h9 => (duo (h := h61) ⟨lies_leaf _ _ _ _, fits_leaf (by decide) (by decide) (by first | decide | omega) (by first | decide | omega) (by decide)⟩ ⟨lies_leaf _ _ _ _, fits_leaf (by decide) (by decide) (by have := dgN_lt e31; omega) (by have := dgN_lt e31; omega) (by decide)⟩ t h9).2)⟩
               refine sy_nil rfl (ny_zy hB16_4 hle61 ?_)
               refine zy_1 5 (by kernel_rfl) ?_
               refine zop_run rfl rfl (fun hB16_5 => ?_)
               refine sy_buildSlice (cs := [g, (GT.mk 3 0 ⟨#[42]⟩ A61 c61 [(GT.mk 2 2 ⟨#[]⟩ none 0 []), (GT.mk 2 ((dgN e31 : Nat) : Int) ⟨#[]⟩ none 0 [])])].flatMap GT.cells) rfl (fun w => bsl_23_2_0x1 w) rfl rfl (fun b62 hb62 hM62 => ?_) (by simp)
               refine sy_frz 0 rfl (by simp) (fun h62 hle62 hbx62 => ?_)
               have hr62 : RowsAt h62 (some ⟨b62, 0, none⟩) 4 ([g, (GT.mk 3 0 ⟨#[42]⟩ A61 c61 [(GT.mk 2 2 ⟨#[]⟩ none 0 []), (GT.mk 2 ((dgN e31 : Nat) : Int) ⟨#[]⟩ none 0 [])])].map GT.cells) := rows_blk (by decide) (GT.cells_len _) hbx62
               refine sy_nil rfl (ny_zy hB16_5 hle62 ?_)
               refine zy_1 6 (by kernel_rfl) ?_
               refine zop_run rfl rfl (fun hB16_6 => ?_)
               refine sy_callx call_16 rfl (make_c ⟨#[43]⟩ (some ⟨b62, 0, none⟩) 2 [g, (GT.mk 3 0 ⟨#[42]⟩ A61 c61 [(GT.mk 2 2 ⟨#[]⟩ none 0 []), (GT.mk 2 ((dgN e31 : Nat) : Int) ⟨#[]⟩ none 0 [])])] _ rfl hr62 (by simp)) rfl rfl (fun x63 h63 hx63 hle63 => ?_)
               obtain ⟨A63, c63⟩ := x63
               have hlf63 : Lies h63 (GT.mk 3 0 ⟨#[43]⟩ A63 c63 [g, (GT.mk 3 0 ⟨#[42]⟩ A61 c61 [(GT.mk 2 2 ⟨#[]⟩ none 0 []), (GT.mk 2 ((dgN e31 : Nat) : Int) ⟨#[]⟩ none 0 [])])]) ∧ Fits (GT.mk 3 0 ⟨#[43]⟩ A63 c63 [g, (GT.mk 3 0 ⟨#[42]⟩ A61 c61 [(GT.mk 2 2 ⟨#[]⟩ none 0 []), (GT.mk 2 ((dgN e31 : Nat) : Int) ⟨#[]⟩ none 0 [])])]) := ⟨.intro _ _ _ _ _ _ hx63.2 hx63.1 (fun t h9 => (duo (h := h63) ⟨(((hlg.1.le hle60).le hle61).le hle62).le hle63, hlg.2⟩ ⟨(hlf61.1.le hle62).le hle63, hlf61.2⟩ t h9).1), fits_kids (by decide) (by decide) (by decide) (by decide) (by decide) (by simp) (fun t h9 => (duo (h := h63) ⟨(((hlg.1.le hle60).le hle61).le hle62).le hle63, hlg.2⟩ ⟨(hlf61.1.le hle62).le hle63, hlf61.2⟩ t h9).2)⟩
               refine sy_nil rfl (ny_zy hB16_6 hle63 ?_)
               refine zy_1 7 (by kernel_rfl) ?_
               refine zop_run rfl rfl (fun hB16_7 => ?_)
               first | refine sy_stl 0 sz_30 rfl rfl rfl rfl rfl rfl rfl rfl ?_ | refine sy_stl 1 sz_30 rfl rfl rfl rfl rfl rfl rfl rfl ?_ | refine sy_stl 2 sz_30 rfl rfl rfl rfl rfl rfl rfl rfl ?_ | refine sy_stl 3 sz_30 rfl rfl rfl rfl rfl rfl rfl rfl ?_ | refine sy_stl 4 sz_30 rfl rfl rfl rfl rfl rfl rfl rfl ?_ | refine sy_stl 5 sz_30 rfl rfl rfl rfl rfl rfl rfl rfl ?_
               refine sy_nil rfl (ny_zy hB16_7 (Hp.Le.refl _) ?_)
               refine zy_done (by kernel_rfl) ?_
               refine ny_blockN ?_
               refine ny_next ?_
               refine cy_region ?_
               refine sy_move rfl rfl rfl ?_
               refine sy_addi (z := ((i + 1 : Nat) : Int)) rfl rfl (by omega) (by omega) (by omega) rfl rfl ?_
               refine sy_assign rfl rfl rfl ?_
               refine sy_nil rfl ?_
               refine ny_roundK [0, 3, 5] ((i + 1, (GT.mk 3 0 ⟨#[43]⟩ A63 c63 [g, (GT.mk 3 0 ⟨#[42]⟩ A61 c61 [(GT.mk 2 2 ⟨#[]⟩ none 0 []), (GT.mk 2 ((dgN e31 : Nat) : Int) ⟨#[]⟩ none 0 [])])])), h63) [0] ⟨(show i + 1 ≤ es.length by omega), (by show _ = preT (es.take (i + 1)); rw [take_snoc he31, preT_snoc (take_ne hI hi0), hb52, ← hgt]; simp only [GT.tm_mk, List.map_cons, List.map_nil]; rfl), ((((hlez.trans hle16).trans hle60).trans hle61).trans hle62).trans hle63, hlf63⟩ (show es.length - (i + 1) < es.length - i by omega) rfl ⟨congrArg (fun z => some (Value.string z)) (st_snoc2 he31 hi0 hb52), rfl, trivial⟩ rfl rfl
             · refine zop_run rfl rfl (fun hB16_3 => ?_)
               refine sy_buildSlice (cs := [(GT.mk 2 2 ⟨#[]⟩ none 0 []), (GT.mk 2 ((dgN e31 : Nat) : Int) ⟨#[]⟩ none 0 [])].flatMap GT.cells) rfl (fun w => bsl_23_2_0x1 w) rfl rfl (fun b60 hb60 hM60 => ?_) (by simp)
               refine sy_frz 0 rfl (by simp) (fun h60 hle60 hbx60 => ?_)
               have hr60 : RowsAt h60 (some ⟨b60, 0, none⟩) 4 ([(GT.mk 2 2 ⟨#[]⟩ none 0 []), (GT.mk 2 ((dgN e31 : Nat) : Int) ⟨#[]⟩ none 0 [])].map GT.cells) := rows_blk (by decide) (GT.cells_len _) hbx60
               refine sy_nil rfl (ny_zy hB16_3 hle60 ?_)
               refine zy_2 0 4 (by kernel_rfl) ?_ ?_
               · refine zop_run rfl rfl (fun hB16_0 => ?_)
                 first | refine sy_ldar 0 agg_30 rfl rfl rfl rfl rfl ?_ | refine sy_ldar 1 agg_30 rfl rfl rfl rfl rfl ?_ | refine sy_ldar 2 agg_30 rfl rfl rfl rfl rfl ?_ | refine sy_ldar 3 agg_30 rfl rfl rfl rfl rfl ?_ | refine sy_ldar 4 agg_30 rfl rfl rfl rfl rfl ?_ | refine sy_ldar 5 agg_30 rfl rfl rfl rfl rfl ?_
                 refine sy_nil rfl (ny_zy hB16_0 (Hp.Le.refl _) ?_)
                 refine zy_1 4 (by kernel_rfl) ?_
                 refine zop_run rfl rfl (fun hB16_4 => ?_)
                 refine sy_callx call_16 rfl (make_c ⟨#[42]⟩ (some ⟨b60, 0, none⟩) 2 [(GT.mk 2 2 ⟨#[]⟩ none 0 []), (GT.mk 2 ((dgN e31 : Nat) : Int) ⟨#[]⟩ none 0 [])] _ rfl hr60 (by simp)) rfl rfl (fun x61 h61 hx61 hle61 => ?_)
                 obtain ⟨A61, c61⟩ := x61
                 have hlf61 : Lies h61 (GT.mk 3 0 ⟨#[42]⟩ A61 c61 [(GT.mk 2 2 ⟨#[]⟩ none 0 []), (GT.mk 2 ((dgN e31 : Nat) : Int) ⟨#[]⟩ none 0 [])]) ∧ Fits (GT.mk 3 0 ⟨#[42]⟩ A61 c61 [(GT.mk 2 2 ⟨#[]⟩ none 0 []), (GT.mk 2 ((dgN e31 : Nat) : Int) ⟨#[]⟩ none 0 [])]) := ⟨.intro _ _ _ _ _ _ hx61.2 hx61.1 (fun t h9 => (duo (h := h61) ⟨lies_leaf _ _ _ _, fits_leaf (by decide) (by decide) (by first | decide | omega) (by first | decide | omega) (by decide)⟩ ⟨lies_leaf _ _ _ _, fits_leaf (by decide) (by decide) (by have := dgN_lt e31; omega) (by have := dgN_lt e31; omega) (by decide)⟩ t h9).1), fits_kids (by decide) (by decide) (by decide) (by decide) (by decide) (by simp) (fun t h9 => (duo (h := h61) ⟨lies_leaf _ _ _ _, fits_leaf (by decide) (by decide) (by first | decide | omega) (by first | decide | omega) (by decide)⟩ ⟨lies_leaf _ _ _ _, fits_leaf (by decide) (by decide) (by have := dgN_lt e31; omega) (by have := dgN_lt e31; omega) (by decide)⟩ t h9).2)⟩
                 refine sy_nil rfl (ny_zy hB16_4 hle61 ?_)
                 refine zy_1 5 (by kernel_rfl) ?_
                 refine zop_run rfl rfl (fun hB16_5 => ?_)
                 refine sy_buildSlice (cs := [g, (GT.mk 3 0 ⟨#[42]⟩ A61 c61 [(GT.mk 2 2 ⟨#[]⟩ none 0 []), (GT.mk 2 ((dgN e31 : Nat) : Int) ⟨#[]⟩ none 0 [])])].flatMap GT.cells) rfl (fun w => bsl_23_2_0x1 w) rfl rfl (fun b62 hb62 hM62 => ?_) (by simp)
                 refine sy_frz 0 rfl (by simp) (fun h62 hle62 hbx62 => ?_)
                 have hr62 : RowsAt h62 (some ⟨b62, 0, none⟩) 4 ([g, (GT.mk 3 0 ⟨#[42]⟩ A61 c61 [(GT.mk 2 2 ⟨#[]⟩ none 0 []), (GT.mk 2 ((dgN e31 : Nat) : Int) ⟨#[]⟩ none 0 [])])].map GT.cells) := rows_blk (by decide) (GT.cells_len _) hbx62
                 refine sy_nil rfl (ny_zy hB16_5 hle62 ?_)
                 refine zy_1 6 (by kernel_rfl) ?_
                 refine zop_run rfl rfl (fun hB16_6 => ?_)
                 refine sy_callx call_16 rfl (make_c ⟨#[43]⟩ (some ⟨b62, 0, none⟩) 2 [g, (GT.mk 3 0 ⟨#[42]⟩ A61 c61 [(GT.mk 2 2 ⟨#[]⟩ none 0 []), (GT.mk 2 ((dgN e31 : Nat) : Int) ⟨#[]⟩ none 0 [])])] _ rfl hr62 (by simp)) rfl rfl (fun x63 h63 hx63 hle63 => ?_)
                 obtain ⟨A63, c63⟩ := x63
                 have hlf63 : Lies h63 (GT.mk 3 0 ⟨#[43]⟩ A63 c63 [g, (GT.mk 3 0 ⟨#[42]⟩ A61 c61 [(GT.mk 2 2 ⟨#[]⟩ none 0 []), (GT.mk 2 ((dgN e31 : Nat) : Int) ⟨#[]⟩ none 0 [])])]) ∧ Fits (GT.mk 3 0 ⟨#[43]⟩ A63 c63 [g, (GT.mk 3 0 ⟨#[42]⟩ A61 c61 [(GT.mk 2 2 ⟨#[]⟩ none 0 []), (GT.mk 2 ((dgN e31 : Nat) : Int) ⟨#[]⟩ none 0 [])])]) := ⟨.intro _ _ _ _ _ _ hx63.2 hx63.1 (fun t h9 => (duo (h := h63) ⟨(((hlg.1.le hle60).le hle61).le hle62).le hle63, hlg.2⟩ ⟨(hlf61.1.le hle62).le hle63, hlf61.2⟩ t h9).1), fits_kids (by decide) (by decide) (by decide) (by decide) (by decide) (by simp) (fun t h9 => (duo (h := h63) ⟨(((hlg.1.le hle60).le hle61).le hle62).le hle63, hlg.2⟩ ⟨(hlf61.1.le hle62).le hle63, hlf61.2⟩ t h9).2)⟩
                 refine sy_nil rfl (ny_zy hB16_6 hle63 ?_)
                 refine zy_1 7 (by kernel_rfl) ?_
                 refine zop_run rfl rfl (fun hB16_7 => ?_)
                 first | refine sy_stl 0 sz_30 rfl rfl rfl rfl rfl rfl rfl rfl ?_ | refine sy_stl 1 sz_30 rfl rfl rfl rfl rfl rfl rfl rfl ?_ | refine sy_stl 2 sz_30 rfl rfl rfl rfl rfl rfl rfl rfl ?_ | refine sy_stl 3 sz_30 rfl rfl rfl rfl rfl rfl rfl rfl ?_ | refine sy_stl 4 sz_30 rfl rfl rfl rfl rfl rfl rfl rfl ?_ | refine sy_stl 5 sz_30 rfl rfl rfl rfl rfl rfl rfl rfl ?_
                 refine sy_nil rfl (ny_zy hB16_7 (Hp.Le.refl _) ?_)
                 refine zy_done (by kernel_rfl) ?_
                 refine ny_blockN ?_
                 refine ny_next ?_
                 refine cy_region ?_
                 refine sy_move rfl rfl rfl ?_
                 refine sy_addi (z := ((i + 1 : Nat) : Int)) rfl rfl (by omega) (by omega) (by omega) rfl rfl ?_
                 refine sy_assign rfl rfl rfl ?_
                 refine sy_nil rfl ?_
                 refine ny_roundK [0, 3, 5] ((i + 1, (GT.mk 3 0 ⟨#[43]⟩ A63 c63 [g, (GT.mk 3 0 ⟨#[42]⟩ A61 c61 [(GT.mk 2 2 ⟨#[]⟩ none 0 []), (GT.mk 2 ((dgN e31 : Nat) : Int) ⟨#[]⟩ none 0 [])])])), h63) [0] ⟨(show i + 1 ≤ es.length by omega), (by show _ = preT (es.take (i + 1)); rw [take_snoc he31, preT_snoc (take_ne hI hi0), hb52, ← hgt]; simp only [GT.tm_mk, List.map_cons, List.map_nil]; rfl), ((((hlez.trans hle16).trans hle60).trans hle61).trans hle62).trans hle63, hlf63⟩ (show es.length - (i + 1) < es.length - i by omega) rfl ⟨congrArg (fun z => some (Value.string z)) (st_snoc2 he31 hi0 hb52), rfl, trivial⟩ rfl rfl
               · refine zop_run rfl rfl (fun hB16_4 => ?_)
                 refine sy_callx call_16 rfl (make_c ⟨#[42]⟩ (some ⟨b60, 0, none⟩) 2 [(GT.mk 2 2 ⟨#[]⟩ none 0 []), (GT.mk 2 ((dgN e31 : Nat) : Int) ⟨#[]⟩ none 0 [])] _ rfl hr60 (by simp)) rfl rfl (fun x61 h61 hx61 hle61 => ?_)
                 obtain ⟨A61, c61⟩ := x61
                 have hlf61 : Lies h61 (GT.mk 3 0 ⟨#[42]⟩ A61 c61 [(GT.mk 2 2 ⟨#[]⟩ none 0 []), (GT.mk 2 ((dgN e31 : Nat) : Int) ⟨#[]⟩ none 0 [])]) ∧ Fits (GT.mk 3 0 ⟨#[42]⟩ A61 c61 [(GT.mk 2 2 ⟨#[]⟩ none 0 []), (GT.mk 2 ((dgN e31 : Nat) : Int) ⟨#[]⟩ none 0 [])]) := ⟨.intro _ _ _ _ _ _ hx61.2 hx61.1 (fun t h9 => (duo (h := h61) ⟨lies_leaf _ _ _ _, fits_leaf (by decide) (by decide) (by first | decide | omega) (by first | decide | omega) (by decide)⟩ ⟨lies_leaf _ _ _ _, fits_leaf (by decide) (by decide) (by have := dgN_lt e31; omega) (by have := dgN_lt e31; omega) (by decide)⟩ t h9).1), fits_kids (by decide) (by decide) (by decide) (by decide) (by decide) (by simp) (fun t h9 => (duo (h := h61) ⟨lies_leaf _ _ _ _, fits_leaf (by decide) (by decide) (by first | decide | omega) (by first | decide | omega) (by decide)⟩ ⟨lies_leaf _ _ _ _, fits_leaf (by decide) (by decide) (by have := dgN_lt e31; omega) (by have := dgN_lt e31; omega) (by decide)⟩ t h9).2)⟩
                 refine sy_nil rfl (ny_zy hB16_4 hle61 ?_)
                 refine zy_1 0 (by kernel_rfl) ?_
                 refine zop_run rfl rfl (fun hB16_0 => ?_)
                 first | refine sy_ldar 0 agg_30 rfl rfl rfl rfl rfl ?_ | refine sy_ldar 1 agg_30 rfl rfl rfl rfl rfl ?_ | refine sy_ldar 2 agg_30 rfl rfl rfl rfl rfl ?_ | refine sy_ldar 3 agg_30 rfl rfl rfl rfl rfl ?_ | refine sy_ldar 4 agg_30 rfl rfl rfl rfl rfl ?_ | refine sy_ldar 5 agg_30 rfl rfl rfl rfl rfl ?_
                 refine sy_nil rfl (ny_zy hB16_0 (Hp.Le.refl _) ?_)
                 refine zy_1 5 (by kernel_rfl) ?_
                 refine zop_run rfl rfl (fun hB16_5 => ?_)
                 refine sy_buildSlice (cs := [g, (GT.mk 3 0 ⟨#[42]⟩ A61 c61 [(GT.mk 2 2 ⟨#[]⟩ none 0 []), (GT.mk 2 ((dgN e31 : Nat) : Int) ⟨#[]⟩ none 0 [])])].flatMap GT.cells) rfl (fun w => bsl_23_2_0x1 w) rfl rfl (fun b62 hb62 hM62 => ?_) (by simp)
                 refine sy_frz 0 rfl (by simp) (fun h62 hle62 hbx62 => ?_)
                 have hr62 : RowsAt h62 (some ⟨b62, 0, none⟩) 4 ([g, (GT.mk 3 0 ⟨#[42]⟩ A61 c61 [(GT.mk 2 2 ⟨#[]⟩ none 0 []), (GT.mk 2 ((dgN e31 : Nat) : Int) ⟨#[]⟩ none 0 [])])].map GT.cells) := rows_blk (by decide) (GT.cells_len _) hbx62
                 refine sy_nil rfl (ny_zy hB16_5 hle62 ?_)
                 refine zy_1 6 (by kernel_rfl) ?_
                 refine zop_run rfl rfl (fun hB16_6 => ?_)
                 refine sy_callx call_16 rfl (make_c ⟨#[43]⟩ (some ⟨b62, 0, none⟩) 2 [g, (GT.mk 3 0 ⟨#[42]⟩ A61 c61 [(GT.mk 2 2 ⟨#[]⟩ none 0 []), (GT.mk 2 ((dgN e31 : Nat) : Int) ⟨#[]⟩ none 0 [])])] _ rfl hr62 (by simp)) rfl rfl (fun x63 h63 hx63 hle63 => ?_)
                 obtain ⟨A63, c63⟩ := x63
                 have hlf63 : Lies h63 (GT.mk 3 0 ⟨#[43]⟩ A63 c63 [g, (GT.mk 3 0 ⟨#[42]⟩ A61 c61 [(GT.mk 2 2 ⟨#[]⟩ none 0 []), (GT.mk 2 ((dgN e31 : Nat) : Int) ⟨#[]⟩ none 0 [])])]) ∧ Fits (GT.mk 3 0 ⟨#[43]⟩ A63 c63 [g, (GT.mk 3 0 ⟨#[42]⟩ A61 c61 [(GT.mk 2 2 ⟨#[]⟩ none 0 []), (GT.mk 2 ((dgN e31 : Nat) : Int) ⟨#[]⟩ none 0 [])])]) := ⟨.intro _ _ _ _ _ _ hx63.2 hx63.1 (fun t h9 => (duo (h := h63) ⟨(((hlg.1.le hle60).le hle61).le hle62).le hle63, hlg.2⟩ ⟨(hlf61.1.le hle62).le hle63, hlf61.2⟩ t h9).1), fits_kids (by decide) (by decide) (by decide) (by decide) (by decide) (by simp) (fun t h9 => (duo (h := h63) ⟨(((hlg.1.le hle60).le hle61).le hle62).le hle63, hlg.2⟩ ⟨(hlf61.1.le hle62).le hle63, hlf61.2⟩ t h9).2)⟩
                 refine sy_nil rfl (ny_zy hB16_6 hle63 ?_)
                 refine zy_1 7 (by kernel_rfl) ?_
                 refine zop_run rfl rfl (fun hB16_7 => ?_)
                 first | refine sy_stl 0 sz_30 rfl rfl rfl rfl rfl rfl rfl rfl ?_ | refine sy_stl 1 sz_30 rfl rfl rfl rfl rfl rfl rfl rfl ?_ | refine sy_stl 2 sz_30 rfl rfl rfl rfl rfl rfl rfl rfl ?_ | refine sy_stl 3 sz_30 rfl rfl rfl rfl rfl rfl rfl rfl ?_ | refine sy_stl 4 sz_30 rfl rfl rfl rfl rfl rfl rfl rfl ?_ | refine sy_stl 5 sz_30 rfl rfl rfl rfl rfl rfl rfl rfl ?_
                 refine sy_nil rfl (ny_zy hB16_7 (Hp.Le.refl _) ?_)
                 refine zy_done (by kernel_rfl) ?_
                 refine ny_blockN ?_
                 refine ny_next ?_
                 refine cy_region ?_
                 refine sy_move rfl rfl rfl ?_
                 refine sy_addi (z := ((i + 1 : Nat) : Int)) rfl rfl (by omega) (by omega) (by omega) rfl rfl ?_
                 refine sy_assign rfl rfl rfl ?_
                 refine sy_nil rfl ?_
                 refine ny_roundK [0, 3, 5] ((i + 1, (GT.mk 3 0 ⟨#[43]⟩ A63 c63 [g, (GT.mk 3 0 ⟨#[42]⟩ A61 c61 [(GT.mk 2 2 ⟨#[]⟩ none 0 []), (GT.mk 2 ((dgN e31 : Nat) : Int) ⟨#[]⟩ none 0 [])])])), h63) [0] ⟨(show i + 1 ≤ es.length by omega), (by show _ = preT (es.take (i + 1)); rw [take_snoc he31, preT_snoc (take_ne hI hi0), hb52, ← hgt]; simp only [GT.tm_mk, List.map_cons, List.map_nil]; rfl), ((((hlez.trans hle16).trans hle60).trans hle61).trans hle62).trans hle63, hlf63⟩ (show es.length - (i + 1) < es.length - i by omega) rfl ⟨congrArg (fun z => some (Value.string z)) (st_snoc2 he31 hi0 hb52), rfl, trivial⟩ rfl rfl
         · have hb52 : decide ((e31.toNat : Int) ≥ 128) = false := hc52
           refine cy_seq ?_
           refine cy_region ?_
           refine sy_move rfl rfl rfl ?_
           refine sy_cat rfl rfl (by have h9 := preC_len (es.take i); rw [List.length_take] at h9; (try simp only [ByteArray.size_append]); simp only [bz, List.length_cons, List.length_nil]; omega) rfl rfl ?_
           refine sy_move rfl rfl rfl ?_
           refine sy_cat rfl rfl (by have h9 := preC_len (es.take i); rw [List.length_take] at h9; (try simp only [ByteArray.size_append]); simp only [bz, List.length_cons, List.length_nil]; omega) rfl rfl ?_
           refine sy_assign rfl rfl rfl ?_
           refine sy_nil rfl ?_
           refine ny_next ?_
           refine cy_region ?_
           first | refine sy_ldar 0 agg_30 rfl rfl rfl rfl rfl ?_ | refine sy_ldar 1 agg_30 rfl rfl rfl rfl rfl ?_ | refine sy_ldar 2 agg_30 rfl rfl rfl rfl rfl ?_ | refine sy_ldar 3 agg_30 rfl rfl rfl rfl rfl ?_ | refine sy_ldar 4 agg_30 rfl rfl rfl rfl rfl ?_ | refine sy_ldar 5 agg_30 rfl rfl rfl rfl rfl ?_
           first | refine sy_ldar 0 agg_30 rfl rfl rfl rfl rfl ?_ | refine sy_ldar 1 agg_30 rfl rfl rfl rfl rfl ?_ | refine sy_ldar 2 agg_30 rfl rfl rfl rfl rfl ?_ | refine sy_ldar 3 agg_30 rfl rfl rfl rfl rfl ?_ | refine sy_ldar 4 agg_30 rfl rfl rfl rfl rfl ?_ | refine sy_ldar 5 agg_30 rfl rfl rfl rfl rfl ?_
           refine sy_buildSlice (cs := [g, (GT.mk 2 ((dgN e31 : Nat) : Int) ⟨#[]⟩ none 0 [])].flatMap GT.cells) rfl (fun w => bsl_23_2_0x1 w) rfl rfl (fun b70 hb70 hM70 => ?_) (by simp)
           refine sy_frz 0 rfl (by simp) (fun h70 hle70 hbx70 => ?_)
           have hr70 : RowsAt h70 (some ⟨b70, 0, none⟩) 4 ([g, (GT.mk 2 ((dgN e31 : Nat) : Int) ⟨#[]⟩ none 0 [])].map GT.cells) := rows_blk (by decide) (GT.cells_len _) hbx70
           refine sy_callx call_16 rfl (make_c ⟨#[45]⟩ (some ⟨b70, 0, none⟩) 2 [g, (GT.mk 2 ((dgN e31 : Nat) : Int) ⟨#[]⟩ none 0 [])] _ rfl hr70 (by simp)) rfl rfl (fun x71 h71 hx71 hle71 => ?_)
           obtain ⟨A71, c71⟩ := x71
           have hlf71 : Lies h71 (GT.mk 3 0 ⟨#[45]⟩ A71 c71 [g, (GT.mk 2 ((dgN e31 : Nat) : Int) ⟨#[]⟩ none 0 [])]) ∧ Fits (GT.mk 3 0 ⟨#[45]⟩ A71 c71 [g, (GT.mk 2 ((dgN e31 : Nat) : Int) ⟨#[]⟩ none 0 [])]) := ⟨.intro _ _ _ _ _ _ hx71.2 hx71.1 (fun t h9 => (duo (h := h71) ⟨(hlg.1.le hle70).le hle71, hlg.2⟩ ⟨lies_leaf _ _ _ _, fits_leaf (by decide) (by decide) (by have := dgN_lt e31; omega) (by have := dgN_lt e31; omega) (by decide)⟩ t h9).1), fits_kids (by decide) (by decide) (by decide) (by decide) (by decide) (by simp) (fun t h9 => (duo (h := h71) ⟨(hlg.1.le hle70).le hle71, hlg.2⟩ ⟨lies_leaf _ _ _ _, fits_leaf (by decide) (by decide) (by have := dgN_lt e31; omega) (by have := dgN_lt e31; omega) (by decide)⟩ t h9).2)⟩
           first | refine sy_stl 0 sz_30 rfl rfl rfl rfl rfl rfl rfl rfl ?_ | refine sy_stl 1 sz_30 rfl rfl rfl rfl rfl rfl rfl rfl ?_ | refine sy_stl 2 sz_30 rfl rfl rfl rfl rfl rfl rfl rfl ?_ | refine sy_stl 3 sz_30 rfl rfl rfl rfl rfl rfl rfl rfl ?_ | refine sy_stl 4 sz_30 rfl rfl rfl rfl rfl rfl rfl rfl ?_ | refine sy_stl 5 sz_30 rfl rfl rfl rfl rfl rfl rfl rfl ?_
           refine sy_nil rfl ?_
           refine ny_blockN ?_
           refine ny_next ?_
           refine cy_region ?_
           refine sy_move rfl rfl rfl ?_
           refine sy_addi (z := ((i + 1 : Nat) : Int)) rfl rfl (by omega) (by omega) (by omega) rfl rfl ?_
           refine sy_assign rfl rfl rfl ?_
           refine sy_nil rfl ?_
           refine ny_roundK [0, 3, 5] ((i + 1, (GT.mk 3 0 ⟨#[45]⟩ A71 c71 [g, (GT.mk 2 ((dgN e31 : Nat) : Int) ⟨#[]⟩ none 0 [])])), h71) [0] ⟨(show i + 1 ≤ es.length by omega), (by show _ = preT (es.take (i + 1)); rw [take_snoc he31, preT_snoc (take_ne hI hi0), hb52, ← hgt]; simp only [GT.tm_mk, List.map_cons, List.map_nil]; rfl), (hlez.trans hle70).trans hle71, hlf71⟩ (show es.length - (i + 1) < es.length - i by omega) rfl ⟨congrArg (fun z => some (Value.string z)) (st_snoc1 he31 hi0 hb52), rfl, trivial⟩ rfl rfl
     · have hie : i = es.length := by have := of_decide_eq_false hc26; omega
       subst hie
       rw [List.take_length] at hgt ⊢
       have hpl := preC_len es
       replace hh := hh.le hlez
       have hsum := sums_of hl1 hl2
       refine cy_exit ?_
       refine ny_thenE ?_
       refine ny_thenE ?_
       refine ny_blockX ?_
       refine ny_next ?_
       refine cy_seq ?_
       refine cy_region ?_
       refine sy_move rfl rfl rfl ?_
       refine sy_cat rfl rfl (by simp only [bz, List.length_cons, List.length_nil]; omega) rfl rfl ?_
       refine sy_callx call_10 rfl (allL_c _ (preC es ++ [46]) (by rw [ba_cat]) (1) _ hh) rfl rfl (fun x75 h75 hx75 hle75 => ?_)
       obtain ⟨es75, A75, c75⟩ := x75
       obtain ⟨hT75, hr75, hc75, hz75, hg75⟩ := hx75
       simp only at hT75 hr75 hc75 hz75 hg75 ⊢
       replace hh := hh.le hle75
       rw [hsum] at hT75 ⊢
       obtain ⟨q, rfl, hq⟩ := map_one hT75
       refine sy_move rfl rfl rfl ?_
       refine sy_extract rfl rfl rfl rfl ?_
       refine sy_extract rfl rfl rfl rfl ?_
       refine sy_extract rfl rfl rfl rfl ?_
       refine sy_assign rfl rfl rfl ?_
       refine sy_assign rfl rfl rfl ?_
       refine sy_assign rfl rfl rfl ?_
       refine sy_nil rfl ?_
       refine ny_next ?_
       refine cy_seq ?_
       refine cy_frz 0 rfl (by simp) (fun h20 hle20 hbx20 => ?_)
       have hrq := hr75.le hle20
       have hgq : Lies h20 q ∧ Fits q := ⟨(hg75 q (by simp)).1.1.le hle20, (hg75 q (by simp)).1.2⟩
       replace hlg : Lies h20 g ∧ Fits g := ⟨(hlg.1.le hle75).le hle20, hlg.2⟩
       refine cy_regionQ mixed (by kernel_rfl) ?_
       refine sy_move rfl rfl rfl ?_
       refine sy_move rfl rfl rfl ?_
       refine sy_move rfl rfl rfl ?_
       refine sy_cmp rfl rfl rfl rfl rfl ?_
       refine sy_pickT rfl rfl rfl rfl ?_
       refine sy_move rfl rfl rfl ?_
       refine sy_setT (d := 84) rfl rfl (by first | rfl | (simp; done)) ?_
       refine sy_move rfl rfl rfl ?_
       refine sy_len rfl (len_slice Tryd.underlying23 _ _ _) rfl rfl ?_
       refine sy_cmp rfl rfl rfl rfl rfl ?_
       refine sy_pickT rfl rfl rfl rfl ?_
       refine sy_move rfl rfl rfl ?_
       refine sy_setT (d := 89) rfl rfl (by first | rfl | (simp; done)) ?_
       refine sy_move rfl rfl rfl ?_
       refine sy_idxR (i := 0) (fc := GT.cells) (es := [q]) els_23 rfl rfl hrq rfl (by simp) rfl rfl (fun e91 b91 o91 he91 hA91 hc91 => ?_)
       obtain rfl : q = e91 := Option.some.inj he91
       refine sy_ldah (vs := GT.cells q) agg_30 rfl rfl hc91 rfl rfl ?_
       refine sy_ldah (vs := GT.cells g) agg_30 rfl rfl (Hp.blk hbx20) rfl rfl ?_
       refine sy_call rfl call_17 rfl (same_c q g _ hgq.1 hgq.2 hlg.1 hlg.2) rfl rfl ?_
       rw [same_refl (a := q.tm) (b := g.tm) (by rw [hq, hgt])]
       refine sy_setT (d := 94) rfl rfl rfl ?_
       refine sy_pickT rfl rfl rfl rfl ?_
       refine sy_assign rfl rfl rfl ?_
       refine sy_nil rfl ?_
       refine ny_next ?_
       refine cy_ret ?_
       refine ny_finR (res1 rfl rfl) (fun w hs2 => ⟨rfl, hs2.frm⟩)
end Go.Proofs.YtanhhihechakhaaDoor
set_option linter.unusedVariables false
set_option linter.unusedSimpArgs false
namespace Go.Proofs.YtanhhihechakhaaDoor
open Go.RowKit Go.Proofs.YtanhhihechakhaaDoor.E Go.Proofs.YtanhhihechakhaaDoor.ReplP Go.Proofs.YtanhhihechakhaaDoor.TokP Go.Proofs.YtanhhihechakhaaDoor.TermP Go.Proofs.YtanhhihechakhaaDoor.WrP Go.Proofs.YtanhhihechakhaaDoor.ReadP Go.Proofs.YtanhhihechakhaaDoor.OpsP
def dgT (u : UInt8) : Tm := numT ((dgN u : Nat) : Int)
theorem pairs_stepU {l : List UInt8} {i : Nat} {e : UInt8} {x : Tm} (h : l[i]? = some e) : pairsR ((l.drop i).map dgT) x = funT pairS [dgT e, pairsR ((l.drop (i + 1)).map dgT) x] := by
 have h1 : l.drop i = e :: l.drop (i + 1) := drop_at h
 rw [h1, List.map_cons]
 rfl
theorem elC_snoc {l : List Nat} (h : l ≠ []) (d : Nat) : elC (l ++ [d]) = elC l ++ [44, 32, digC d] := by
 have key : ∀ l : List Nat, moC (l ++ [d]) = moC l ++ [44, 32, digC d] := fun l => by
  induction l with
  | nil => rfl
  | cons x l ih => show 44 :: 32 :: digC x :: moC (l ++ [d]) = _; rw [ih]; rfl
 cases l with
 | nil => exact absurd rfl h
 | cons x l =>
  show digC x :: moC (l ++ [d]) = _
  rw [key]
  rfl
theorem ls_first {l : List UInt8} {u : UInt8} (h : l[0]? = some u) : (⟨(91 :: elC ((l.take 0).map dgN)).toArray⟩ : ByteArray) ++ ⟨#[digC (dgN u)]⟩ = ⟨(91 :: elC ((l.take 1).map dgN)).toArray⟩ := by
 cases l with
 | nil => cases h
 | cons v r =>
  simp only [List.getElem?_cons_zero, Option.some.injEq] at h
  subst h
  refine ba_inj ?_
  rw [ba_cat]
  rfl
theorem ls_more {l : List UInt8} {i : Nat} {u : UInt8} (h : l[i]? = some u) (h0 : ¬ i = 0) : (⟨(91 :: elC ((l.take i).map dgN)).toArray⟩ : ByteArray) ++ ⟨#[44, 32]⟩ ++ ⟨#[digC (dgN u)]⟩ = ⟨(91 :: elC ((l.take (i + 1)).map dgN)).toArray⟩ := by
 have hl := (List.getElem?_eq_some_iff.1 h).1
 have hne : (l.take i).map dgN ≠ [] := fun h9 => take_ne (by omega) h0 (List.map_eq_nil_iff.1 h9)
 refine ba_inj ?_
 rw [take_snoc h, List.map_append, List.map_cons, List.map_nil, elC_snoc hne, ba_cat, ba_cat]
 simp
theorem elC_len (l : List Nat) : (elC l).length ≤ 3 * l.length := by
 cases l with
 | nil => exact Nat.zero_le _
 | cons d l =>
  show (moC l).length + 1 ≤ _
  rw [moC_len, List.length_cons]
  omega
theorem ls_end {es : List UInt8} {b : Bool} (hb : b = true → es ≠ []) (hn : es.length ≤ 20) : allA 1 (lsC (es.map dgN) b) = .ok [pairsR (es.map dgT) (lastL b)] := by
 have h := lists_read (lv := 1) (l := es.map dgN) (b := b) (fun h9 h8 => hb h9 (List.map_eq_nil_iff.1 h8)) (fun x hx => by
  obtain ⟨u, _, rfl⟩ := List.mem_map.1 hx
  exact dgN_lt u) (by rw [List.length_map]; exact hn)
 rw [List.map_map] at h
 exact h
theorem let_tm : (GT.mk 1 0 ⟨#[]⟩ none 0 []).tm = letT 0 := by rw [tm_leaf]; rfl
set_option maxRecDepth 100000 in
theorem listsF_c (es : List UInt8) (A : Option Addr) (c : Nat) (h : Hp) (hR : RowsAt h A 1 (es.map byC)) (hh : Hdl h) : C0 Tryd.prog 6 [.slice A es.length c, .bool false] h (.bool true) := by
 refine enter0 Tryd.func6 rfl rfl rfl (fun w => ?_)
 refine cy_seq ?_
 refine cy_region ?_
 refine sy_assign rfl rfl rfl ?_
 refine sy_nil rfl ?_
 refine ny_next ?_
 refine cy_seq ?_
 refine cy_region ?_
 refine sy_call rfl call_9 rfl (shown07_c _ hh) rfl rfl ?_
 refine sy_setT (d := 13) rfl rfl rfl ?_
 refine sy_assign rfl rfl rfl ?_
 refine sy_nil rfl ?_
 refine ny_next ?_
 refine cy_seq ?_
 refine cy_seq ?_
 refine cy_region ?_
 refine sy_move rfl rfl rfl ?_
 refine sy_len rfl (len_slice Tryd.underlying36 _ _ _) rfl rfl ?_
 refine sy_cmp rfl rfl rfl rfl rfl ?_
 refine sy_nil rfl ?_
 refine ny_next ?_
 refine cy_cond rfl (fun hc16 => ?_) (fun hc16 => ?_)
 · refine cy_seq ?_
   refine cy_region ?_
   refine sy_move rfl rfl rfl ?_
   refine sy_assign rfl rfl rfl ?_
   refine sy_nil rfl ?_
   refine ny_next ?_
   refine cy_ret ?_
   refine ny_thenR ?_
   refine ny_finR (res1 rfl rfl) (fun w hs2 => ⟨rfl, hs2.frm⟩)
 · have hl2 : es.length ≤ 20 := by have := of_decide_eq_false hc16; omega
   have hbn : false = true → es ≠ [] := by
    intro h9
    first | (cases h9; done) | (intro h8; rw [h8] at h0; exact absurd h0 (by decide))
   refine cy_skip ?_
   refine ny_next ?_
   refine cy_seq ?_
   refine cy_region ?_
   refine sy_assign rfl rfl rfl ?_
   refine sy_nil rfl ?_
   refine ny_next ?_
   refine cy_seq ?_
   refine cy_region ?_
   refine sy_call rfl call_18 rfl (atom_c ⟨#[91, 93]⟩ _) rfl rfl ?_
   refine sy_alloc zer_30 rfl rfl (fun b7 hb7 hM7 => ?_) (by simp)
   first | refine sy_stl 0 sz_30 rfl rfl rfl rfl rfl rfl rfl rfl ?_ | refine sy_stl 1 sz_30 rfl rfl rfl rfl rfl rfl rfl rfl ?_ | refine sy_stl 2 sz_30 rfl rfl rfl rfl rfl rfl rfl rfl ?_ | refine sy_stl 3 sz_30 rfl rfl rfl rfl rfl rfl rfl rfl ?_ | refine sy_stl 4 sz_30 rfl rfl rfl rfl rfl rfl rfl rfl ?_ | refine sy_stl 5 sz_30 rfl rfl rfl rfl rfl rfl rfl rfl ?_
   refine sy_nil rfl ?_
   refine ny_next ?_
   refine cy_seq ?_
   refine cy_seq ?_
   refine cy_region ?_
   refine sy_move rfl rfl rfl ?_
   refine sy_setF (d := 19) rfl rfl rfl ?_
   refine sy_move rfl rfl rfl ?_
   refine sy_skip rfl rfl rfl ?_
   refine sy_skip rfl rfl rfl ?_
   refine sy_skip rfl rfl rfl ?_
   refine sy_pickF rfl rfl rfl rfl ?_
   refine sy_nil rfl ?_
   refine ny_next ?_
   refine cy_condF rfl ?_
   refine cy_skip ?_
   refine ny_next ?_
   refine cy_seq ?_
   refine cy_seq ?_
   refine cy_region ?_
   refine sy_move rfl rfl rfl ?_
   refine sy_len rfl (len_slice Tryd.underlying36 _ _ _) rfl rfl ?_
   refine sy_subi (z := ((es.length : Nat) : Int) - 1) rfl rfl rfl (by omega) (by omega) rfl rfl ?_
   refine sy_assign rfl rfl rfl ?_
   refine sy_nil rfl ?_
   refine ny_next ?_
   refine cy_block ?_
   refine cy_loopK (ι := (Nat × GT) × Hp) [0, 1, 5, 6, 7] rfl (fun z => z.1.1 ≤ es.length ∧ z.1.2.tm = pairsR ((es.drop z.1.1).map dgT) (lastL false) ∧ h.Le z.2 ∧ (Lies z.2 z.1.2 ∧ Fits z.1.2)) (fun z => z.1.1) (fun z => [(8, .int .i64 ((z.1.1 : Int) - 1))]) (fun z => z.2) (fun z => [.blk b7 (.cells (GT.cells z.1.2).toArray 30 (0, 0))]) ((es.length, (GT.mk 3 0 ⟨#[91, 93]⟩ none 0 [])), h) [0] ⟨Nat.le_refl _, (by rw [List.drop_length]; exact nil_tm), Hp.Le.refl _, ⟨lies_leaf _ _ _ _, fits_leaf (by decide) (by decide) (by first | decide | omega) (by first | decide | omega) (by decide)⟩⟩ ⟨rfl, trivial⟩ rfl rfl ?_
   rintro ⟨⟨k, g⟩, hy⟩ ⟨hK, hgt, hlez, hlg⟩
   simp only at hK hgt hlez hlg ⊢
   have hRz := hR.le hlez
   refine cy_seq ?_
   refine cy_seq ?_
   refine cy_region ?_
   refine sy_move rfl rfl rfl ?_
   refine sy_cmp rfl rfl rfl rfl rfl ?_
   refine sy_nil rfl ?_
   refine ny_next ?_
   refine cy_cond rfl (fun hc30 => ?_) (fun hc30 => ?_)
   · have hk1 : 1 ≤ k := by have := of_decide_eq_true hc30; omega
     refine cy_skip ?_
     refine ny_next ?_
     refine cy_seq ?_
     refine cy_block ?_
     refine cy_regionA mixed ?_
     refine zy_q 0 rfl (by kernel_rfl) (fun hB11_0 => ?_)
     refine sy_move rfl rfl rfl ?_
     refine sy_nil1 (ny_zq hB11_0 ?_)
     refine zy_q 1 rfl (by kernel_rfl) (fun hB11_1 => ?_)
     refine sy_move rfl rfl rfl ?_
     refine sy_nil1 (ny_zq hB11_1 ?_)
     refine zy_q 2 rfl (by kernel_rfl) (fun hB11_2 => ?_)
     refine sy_idxR (i := k - 1) (fc := byC) (es := es) els_36 rfl (by show some (Value.int .i64 ((k : Int) - 1)) = some (.int .i64 ((k - 1 : Nat) : Int)); rw [show (k : Int) - 1 = ((k - 1 : Nat) : Int) by omega]) hRz rfl (by omega) rfl rfl (fun e35 b35 o35 he35 hA35 hc35 => ?_)
     refine sy_nil1 (ny_zq hB11_2 ?_)
     refine zy_q 3 rfl (by kernel_rfl) (fun hB11_3 => ?_)
     refine sy_ldh one_5 rfl (hc35 0 _ rfl) rfl rfl ?_
     refine sy_nil1 (ny_zq hB11_3 ?_)
     refine zy_q 4 rfl (by kernel_rfl) (fun hB11_4 => ?_)
     refine sy_rem8 (a := e35.toNat) (b := 10) rfl rfl (by decide) (by decide) (by have := e35.toNat_lt; omega) rfl rfl ?_
     refine sy_nil1 (ny_zq hB11_4 ?_)
     refine zy_q 5 rfl (by kernel_rfl) (fun hB11_5 => ?_)
     refine sy_convK (z := ((dgN e35 : Nat) : Int)) Tryd.underlying5 Tryd.underlying2 rfl (by have := dgN_lt e35; rw [IntWalk.i64_in _ ⟨by omega, by omega⟩]; rfl) rfl rfl ?_
     refine sy_nil1 (ny_zq hB11_5 ?_)
     refine zy_2 6 7 (by kernel_rfl) ?_ ?_
     · refine zop_run rfl rfl (fun hB11_6 => ?_)
       refine sy_call rfl call_15 rfl (num_c _ _) rfl rfl ?_
       refine sy_nil rfl (ny_zy hB11_6 (Hp.Le.refl _) ?_)
       refine zy_1 7 (by kernel_rfl) ?_
       refine zop_run rfl rfl (fun hB11_7 => ?_)
       first | refine sy_ldar 0 agg_30 rfl rfl rfl rfl rfl ?_ | refine sy_ldar 1 agg_30 rfl rfl rfl rfl rfl ?_ | refine sy_ldar 2 agg_30 rfl rfl rfl rfl rfl ?_ | refine sy_ldar 3 agg_30 rfl rfl rfl rfl rfl ?_ | refine sy_ldar 4 agg_30 rfl rfl rfl rfl rfl ?_ | refine sy_ldar 5 agg_30 rfl rfl rfl rfl rfl ?_
       refine sy_nil rfl (ny_zy hB11_7 (Hp.Le.refl _) ?_)
       refine zy_1 8 (by kernel_rfl) ?_
       refine zop_run rfl rfl (fun hB11_8 => ?_)
       refine sy_buildSlice (cs := [(GT.mk 2 ((dgN e35 : Nat) : Int) ⟨#[]⟩ none 0 []), g].flatMap GT.cells) rfl (fun w => bsl_23_2_0x1 w) rfl rfl (fun b41 hb41 hM41 => ?_) (by simp)
       refine sy_frz 0 rfl (by simp) (fun h41 hle41 hbx41 => ?_)
       have hr41 : RowsAt h41 (some ⟨b41, 0, none⟩) 4 ([(GT.mk 2 ((dgN e35 : Nat) : Int) ⟨#[]⟩ none 0 []), g].map GT.cells) := rows_blk (by decide) (GT.cells_len _) hbx41
       refine sy_nil rfl (ny_zy hB11_8 hle41 ?_)
       refine zy_1 9 (by kernel_rfl) ?_
       refine zop_run rfl rfl (fun hB11_9 => ?_)
       refine sy_callx call_16 rfl (make_c ⟨#[46]⟩ (some ⟨b41, 0, none⟩) 2 [(GT.mk 2 ((dgN e35 : Nat) : Int) ⟨#[]⟩ none 0 []), g] _ rfl hr41 (by simp)) rfl rfl (fun x42 h42 hx42 hle42 => ?_)
       obtain ⟨A42, c42⟩ := x42
       have hlf42 : Lies h42 (GT.mk 3 0 ⟨#[46]⟩ A42 c42 [(GT.mk 2 ((dgN e35 : Nat) : Int) ⟨#[]⟩ none 0 []), g]) ∧ Fits (GT.mk 3 0 ⟨#[46]⟩ A42 c42 [(GT.mk 2 ((dgN e35 : Nat) : Int) ⟨#[]⟩ none 0 []), g]) := ⟨.intro _ _ _ _ _ _ hx42.2 hx42.1 (fun t h9 => (duo (h := h42) ⟨lies_leaf _ _ _ _, fits_leaf (by decide) (by decide) (by have := dgN_lt e35; omega) (by have := dgN_lt e35; omega) (by decide)⟩ ⟨(hlg.1.le hle41).le hle42, hlg.2⟩ t h9).1), fits_kids (by decide) (by decide) (by decide) (by decide) (by decide) (by simp) (fun t h9 => (duo (h := h42) ⟨lies_leaf _ _ _ _, fits_leaf (by decide) (by decide) (by have := dgN_lt e35; omega) (by have := dgN_lt e35; omega) (by decide)⟩ ⟨(hlg.1.le hle41).le hle42, hlg.2⟩ t h9).2)⟩
       refine sy_nil rfl (ny_zy hB11_9 hle42 ?_)
       refine zy_1 10 (by kernel_rfl) ?_
       refine zop_run rfl rfl (fun hB11_10 => ?_)
       first | refine sy_stl 0 sz_30 rfl rfl rfl rfl rfl rfl rfl rfl ?_ | refine sy_stl 1 sz_30 rfl rfl rfl rfl rfl rfl rfl rfl ?_ | refine sy_stl 2 sz_30 rfl rfl rfl rfl rfl rfl rfl rfl ?_ | refine sy_stl 3 sz_30 rfl rfl rfl rfl rfl rfl rfl rfl ?_ | refine sy_stl 4 sz_30 rfl rfl rfl rfl rfl rfl rfl rfl ?_ | refine sy_stl 5 sz_30 rfl rfl rfl rfl rfl rfl rfl rfl ?_
       refine sy_nil rfl (ny_zy hB11_10 (Hp.Le.refl _) ?_)
       refine zy_done (by kernel_rfl) ?_
       refine ny_blockN ?_
       refine ny_next ?_
       refine cy_region ?_
       refine sy_move rfl rfl rfl ?_
       refine sy_subi (z := (k : Int) - 1 - 1) rfl rfl rfl (by omega) (by omega) rfl rfl ?_
       refine sy_assign rfl rfl rfl ?_
       refine sy_nil rfl ?_
       refine ny_roundK [0, 1, 5, 6, 7] ((k - 1, (GT.mk 3 0 ⟨#[46]⟩ A42 c42 [(GT.mk 2 ((dgN e35 : Nat) : Int) ⟨#[]⟩ none 0 []), g])), h42) [0] ⟨(show k - 1 ≤ es.length by omega), (by show _ = pairsR ((es.drop (k - 1)).map dgT) _; rw [pairs_stepU he35, show k - 1 + 1 = k by omega, ← hgt]; simp only [GT.tm_mk, List.map_cons, List.map_nil]; rfl), (hlez.trans hle41).trans hle42, hlf42⟩ (show k - 1 < k by omega) rfl ⟨congrArg (fun z => some (Value.int .i64 z)) (by show (k : Int) - 1 - 1 = ((k - 1 : Nat) : Int) - 1; omega), trivial⟩ rfl rfl
     · refine zop_run rfl rfl (fun hB11_7 => ?_)
       first | refine sy_ldar 0 agg_30 rfl rfl rfl rfl rfl ?_ | refine sy_ldar 1 agg_30 rfl rfl rfl rfl rfl ?_ | refine sy_ldar 2 agg_30 rfl rfl rfl rfl rfl ?_ | refine sy_ldar 3 agg_30 rfl rfl rfl rfl rfl ?_ | refine sy_ldar 4 agg_30 rfl rfl rfl rfl rfl ?_ | refine sy_ldar 5 agg_30 rfl rfl rfl rfl rfl ?_
       refine sy_nil rfl (ny_zy hB11_7 (Hp.Le.refl _) ?_)
       refine zy_1 6 (by kernel_rfl) ?_
       refine zop_run rfl rfl (fun hB11_6 => ?_)
       refine sy_call rfl call_15 rfl (num_c _ _) rfl rfl ?_
       refine sy_nil rfl (ny_zy hB11_6 (Hp.Le.refl _) ?_)
       refine zy_1 8 (by kernel_rfl) ?_
       refine zop_run rfl rfl (fun hB11_8 => ?_)
       refine sy_buildSlice (cs := [(GT.mk 2 ((dgN e35 : Nat) : Int) ⟨#[]⟩ none 0 []), g].flatMap GT.cells) rfl (fun w => bsl_23_2_0x1 w) rfl rfl (fun b41 hb41 hM41 => ?_) (by simp)
       refine sy_frz 0 rfl (by simp) (fun h41 hle41 hbx41 => ?_)
       have hr41 : RowsAt h41 (some ⟨b41, 0, none⟩) 4 ([(GT.mk 2 ((dgN e35 : Nat) : Int) ⟨#[]⟩ none 0 []), g].map GT.cells) := rows_blk (by decide) (GT.cells_len _) hbx41
       refine sy_nil rfl (ny_zy hB11_8 hle41 ?_)
       refine zy_1 9 (by kernel_rfl) ?_
       refine zop_run rfl rfl (fun hB11_9 => ?_)
       refine sy_callx call_16 rfl (make_c ⟨#[46]⟩ (some ⟨b41, 0, none⟩) 2 [(GT.mk 2 ((dgN e35 : Nat) : Int) ⟨#[]⟩ none 0 []), g] _ rfl hr41 (by simp)) rfl rfl (fun x42 h42 hx42 hle42 => ?_)
       obtain ⟨A42, c42⟩ := x42
       have hlf42 : Lies h42 (GT.mk 3 0 ⟨#[46]⟩ A42 c42 [(GT.mk 2 ((dgN e35 : Nat) : Int) ⟨#[]⟩ none 0 []), g]) ∧ Fits (GT.mk 3 0 ⟨#[46]⟩ A42 c42 [(GT.mk 2 ((dgN e35 : Nat) : Int) ⟨#[]⟩ none 0 []), g]) := ⟨.intro _ _ _ _ _ _ hx42.2 hx42.1 (fun t h9 => (duo (h := h42) ⟨lies_leaf _ _ _ _, fits_leaf (by decide) (by decide) (by have := dgN_lt e35; omega) (by have := dgN_lt e35; omega) (by decide)⟩ ⟨(hlg.1.le hle41).le hle42, hlg.2⟩ t h9).1), fits_kids (by decide) (by decide) (by decide) (by decide) (by decide) (by simp) (fun t h9 => (duo (h := h42) ⟨lies_leaf _ _ _ _, fits_leaf (by decide) (by decide) (by have := dgN_lt e35; omega) (by have := dgN_lt e35; omega) (by decide)⟩ ⟨(hlg.1.le hle41).le hle42, hlg.2⟩ t h9).2)⟩
       refine sy_nil rfl (ny_zy hB11_9 hle42 ?_)
       refine zy_1 10 (by kernel_rfl) ?_
       refine zop_run rfl rfl (fun hB11_10 => ?_)
       first | refine sy_stl 0 sz_30 rfl rfl rfl rfl rfl rfl rfl rfl ?_ | refine sy_stl 1 sz_30 rfl rfl rfl rfl rfl rfl rfl rfl ?_ | refine sy_stl 2 sz_30 rfl rfl rfl rfl rfl rfl rfl rfl ?_ | refine sy_stl 3 sz_30 rfl rfl rfl rfl rfl rfl rfl rfl ?_ | refine sy_stl 4 sz_30 rfl rfl rfl rfl rfl rfl rfl rfl ?_ | refine sy_stl 5 sz_30 rfl rfl rfl rfl rfl rfl rfl rfl ?_
       refine sy_nil rfl (ny_zy hB11_10 (Hp.Le.refl _) ?_)
       refine zy_done (by kernel_rfl) ?_
       refine ny_blockN ?_
       refine ny_next ?_
       refine cy_region ?_
       refine sy_move rfl rfl rfl ?_
       refine sy_subi (z := (k : Int) - 1 - 1) rfl rfl rfl (by omega) (by omega) rfl rfl ?_
       refine sy_assign rfl rfl rfl ?_
       refine sy_nil rfl ?_
       refine ny_roundK [0, 1, 5, 6, 7] ((k - 1, (GT.mk 3 0 ⟨#[46]⟩ A42 c42 [(GT.mk 2 ((dgN e35 : Nat) : Int) ⟨#[]⟩ none 0 []), g])), h42) [0] ⟨(show k - 1 ≤ es.length by omega), (by show _ = pairsR ((es.drop (k - 1)).map dgT) _; rw [pairs_stepU he35, show k - 1 + 1 = k by omega, ← hgt]; simp only [GT.tm_mk, List.map_cons, List.map_nil]; rfl), (hlez.trans hle41).trans hle42, hlf42⟩ (show k - 1 < k by omega) rfl ⟨congrArg (fun z => some (Value.int .i64 z)) (by show (k : Int) - 1 - 1 = ((k - 1 : Nat) : Int) - 1; omega), trivial⟩ rfl rfl
   · have hk0 : k = 0 := by have := of_decide_eq_false hc30; omega
     subst hk0
     rw [List.drop_zero] at hgt
     refine cy_exit ?_
     refine ny_thenE ?_
     refine ny_thenE ?_
     refine ny_blockX ?_
     refine ny_next ?_
     refine cy_seq ?_
     refine cy_seq ?_
     refine cy_region ?_
     refine sy_assign rfl rfl rfl ?_
     refine sy_nil rfl ?_
     refine ny_next ?_
     refine cy_block ?_
     refine cy_loopK (ι := Nat) [0, 1, 5, 7] rfl (fun j => j ≤ es.length) (fun j => es.length - j) (fun j => [(6, .string ⟨(91 :: elC ((es.take j).map dgN)).toArray⟩), (9, .int .i64 (j : Int))]) (fun j => hy) (fun j => [.blk b7 (.cells (GT.cells g).toArray 30 (0, 0))]) 0 [0] (Nat.zero_le _) ⟨rfl, rfl, trivial⟩ rfl rfl ?_
     rintro j hJ
     refine cy_seq ?_
     refine cy_seq ?_
     refine cy_region ?_
     refine sy_move rfl rfl rfl ?_
     refine sy_move rfl rfl rfl ?_
     refine sy_len rfl (len_slice Tryd.underlying36 _ _ _) rfl rfl ?_
     refine sy_cmp rfl rfl rfl rfl rfl ?_
     refine sy_nil rfl ?_
     refine ny_next ?_
     refine cy_cond rfl (fun hc46 => ?_) (fun hc46 => ?_)
     · have hltj : j < es.length := by have := of_decide_eq_true hc46; omega
       refine cy_skip ?_
       refine ny_next ?_
       refine cy_seq ?_
       refine cy_block ?_
       refine cy_seq ?_
       refine cy_seq ?_
       refine cy_region ?_
       refine sy_move rfl rfl rfl ?_
       refine sy_cmp rfl rfl rfl rfl rfl ?_
       refine sy_nil rfl ?_
       refine ny_next ?_
       refine cy_cond rfl (fun hc50 => ?_) (fun hc50 => ?_)
       · have hj0 : ¬ j = 0 := by have := of_decide_eq_true hc50; omega
         refine cy_region ?_
         refine sy_move rfl rfl rfl ?_
         refine sy_cat rfl rfl (by have h9 := elC_len ((es.take j).map dgN); rw [List.length_map, List.length_take] at h9; (try simp only [ByteArray.size_append]); simp only [bz, List.length_cons, List.length_nil]; omega) rfl rfl ?_
         refine sy_assign rfl rfl rfl ?_
         refine sy_nil rfl ?_
         refine ny_next ?_
         refine cy_region ?_
         refine sy_move rfl rfl rfl ?_
         refine sy_move rfl rfl rfl ?_
         refine sy_move rfl rfl rfl ?_
         refine sy_idxR (i := j) (fc := byC) (es := es) els_36 rfl rfl hRz rfl (by omega) rfl rfl (fun e56 b56 o56 he56 hA56 hc56 => ?_)
         refine sy_ldh one_5 rfl (hc56 0 _ rfl) rfl rfl ?_
         refine sy_rem8 (a := e56.toNat) (b := 10) rfl rfl (by decide) (by decide) (by have := e56.toNat_lt; omega) rfl rfl ?_
         refine sy_addK (z := ((48 + dgN e56 : Nat) : Int)) rfl rfl (by have := dgN_lt e56; rw [IntWalk.u8_in _ ⟨by omega, by omega⟩]; unfold dgN; omega) rfl rfl ?_
         refine sy_buildSlice rfl (fun w => bsl_36_1_0 w) rfl rfl (fun b60 hb60 hM60 => ?_) (by simp)
         refine sy_byte1 (u := digC (dgN e56)) 0 Tryd.underlying36 Tryd.underlying5 Tryd.underlying9 rfl rfl (dig_byte e56) rfl rfl ?_
         refine sy_cat rfl rfl (by have h9 := elC_len ((es.take j).map dgN); rw [List.length_map, List.length_take] at h9; (try simp only [ByteArray.size_append]); simp only [bz, List.length_cons, List.length_nil]; omega) rfl rfl ?_
         refine sy_assign rfl rfl rfl ?_
         refine sy_nil rfl ?_
         refine ny_blockN ?_
         refine ny_next ?_
         refine cy_region ?_
         refine sy_move rfl rfl rfl ?_
         refine sy_addi (z := ((j + 1 : Nat) : Int)) rfl rfl (by omega) (by omega) (by omega) rfl rfl ?_
         refine sy_assign rfl rfl rfl ?_
         refine sy_nil rfl ?_
         refine ny_roundK [0, 1, 5, 7] (j + 1) [1] (show j + 1 ≤ es.length by omega) (show es.length - (j + 1) < es.length - j by omega) rfl ⟨congrArg (fun z => some (Value.string z)) (ls_more he56 hj0), rfl, trivial⟩ rfl rfl
       · have hj0 : j = 0 := by have := of_decide_eq_false hc50; omega
         refine cy_skip ?_
         refine ny_next ?_
         refine cy_region ?_
         refine sy_move rfl rfl rfl ?_
         refine sy_move rfl rfl rfl ?_
         refine sy_move rfl rfl rfl ?_
         refine sy_idxR (i := j) (fc := byC) (es := es) els_36 rfl rfl hRz rfl (by omega) rfl rfl (fun e56 b56 o56 he56 hA56 hc56 => ?_)
         refine sy_ldh one_5 rfl (hc56 0 _ rfl) rfl rfl ?_
         refine sy_rem8 (a := e56.toNat) (b := 10) rfl rfl (by decide) (by decide) (by have := e56.toNat_lt; omega) rfl rfl ?_
         refine sy_addK (z := ((48 + dgN e56 : Nat) : Int)) rfl rfl (by have := dgN_lt e56; rw [IntWalk.u8_in _ ⟨by omega, by omega⟩]; unfold dgN; omega) rfl rfl ?_
         refine sy_buildSlice rfl (fun w => bsl_36_1_0 w) rfl rfl (fun b60 hb60 hM60 => ?_) (by simp)
         refine sy_byte1 (u := digC (dgN e56)) 0 Tryd.underlying36 Tryd.underlying5 Tryd.underlying9 rfl rfl (dig_byte e56) rfl rfl ?_
         refine sy_cat rfl rfl (by have h9 := elC_len ((es.take j).map dgN); rw [List.length_map, List.length_take] at h9; (try simp only [ByteArray.size_append]); simp only [bz, List.length_cons, List.length_nil]; omega) rfl rfl ?_
         refine sy_assign rfl rfl rfl ?_
         refine sy_nil rfl ?_
         refine ny_blockN ?_
         refine ny_next ?_
         refine cy_region ?_
         refine sy_move rfl rfl rfl ?_
         refine sy_addi (z := ((j + 1 : Nat) : Int)) rfl rfl (by omega) (by omega) (by omega) rfl rfl ?_
         refine sy_assign rfl rfl rfl ?_
         refine sy_nil rfl ?_
         refine ny_roundK [0, 1, 5, 7] (j + 1) [1] (show j + 1 ≤ es.length by omega) (show es.length - (j + 1) < es.length - j by omega) rfl ⟨congrArg (fun z => some (Value.string z)) (by rw [hj0]; exact ls_first (by rw [← hj0]; exact he56)), rfl, trivial⟩ rfl rfl
     · have hje : j = es.length := by have := of_decide_eq_false hc46; omega
       subst hje
       rw [List.take_length]
       refine cy_exit ?_
       refine ny_thenE ?_
       refine ny_thenE ?_
       refine ny_blockX ?_
       refine ny_next ?_
       refine cy_seq ?_
       refine cy_seq ?_
       refine cy_region ?_
       refine sy_move rfl rfl rfl ?_
       refine sy_setF (d := 63) rfl rfl rfl ?_
       refine sy_move rfl rfl rfl ?_
       refine sy_skip rfl rfl rfl ?_
       refine sy_skip rfl rfl rfl ?_
       refine sy_skip rfl rfl rfl ?_
       refine sy_pickF rfl rfl rfl rfl ?_
       refine sy_nil rfl ?_
       refine ny_next ?_
       refine cy_condF rfl ?_
       refine cy_skip ?_
       refine ny_next ?_
       refine cy_seq ?_
       refine cy_region ?_
       refine sy_move rfl rfl rfl ?_
       refine sy_cat rfl rfl (by have h9 := elC_len (es.map dgN); rw [List.length_map] at h9; (try simp only [ByteArray.size_append]); simp only [bz, List.length_cons, List.length_nil]; omega) rfl rfl ?_
       have hhz := hh.le hlez
       replace hh := hhz
       refine sy_callx call_10 rfl (allL_c _ (lsC (es.map dgN) false) (by first | (rw [ba_cat, ba_cat]; simp [lsC, tlC]; done) | (rw [ba_cat]; simp [lsC, tlC])) (1) _ hh) rfl rfl (fun x74 h74 hx74 hle74 => ?_)
       obtain ⟨es74, A74, c74⟩ := x74
       obtain ⟨hT74, hr74, hc74, hz74, hg74⟩ := hx74
       simp only at hT74 hr74 hc74 hz74 hg74 ⊢
       replace hh := hh.le hle74
       rw [ls_end hbn hl2] at hT74 ⊢
       obtain ⟨q, rfl, hq⟩ := map_one hT74
       refine sy_move rfl rfl rfl ?_
       refine sy_extract rfl rfl rfl rfl ?_
       refine sy_extract rfl rfl rfl rfl ?_
       refine sy_extract rfl rfl rfl rfl ?_
       refine sy_assign rfl rfl rfl ?_
       refine sy_assign rfl rfl rfl ?_
       refine sy_assign rfl rfl rfl ?_
       refine sy_nil rfl ?_
       refine ny_next ?_
       refine cy_seq ?_
       refine cy_frz 0 rfl (by simp) (fun h21 hle21 hbx21 => ?_)
       have hrq := hr74.le hle21
       have hgq : Lies h21 q ∧ Fits q := ⟨(hg74 q (by simp)).1.1.le hle21, (hg74 q (by simp)).1.2⟩
       replace hlg : Lies h21 g ∧ Fits g := ⟨(hlg.1.le hle74).le hle21, hlg.2⟩
       refine cy_regionQ mixed (by kernel_rfl) ?_
       refine sy_move rfl rfl rfl ?_
       refine sy_move rfl rfl rfl ?_
       refine sy_move rfl rfl rfl ?_
       refine sy_cmp rfl rfl rfl rfl rfl ?_
       refine sy_pickT rfl rfl rfl rfl ?_
       refine sy_move rfl rfl rfl ?_
       refine sy_setT (d := 83) rfl rfl (by first | rfl | (simp; done)) ?_
       refine sy_move rfl rfl rfl ?_
       refine sy_len rfl (len_slice Tryd.underlying23 _ _ _) rfl rfl ?_
       refine sy_cmp rfl rfl rfl rfl rfl ?_
       refine sy_pickT rfl rfl rfl rfl ?_
       refine sy_move rfl rfl rfl ?_
       refine sy_setT (d := 88) rfl rfl (by first | rfl | (simp; done)) ?_
       refine sy_move rfl rfl rfl ?_
       refine sy_idxR (i := 0) (fc := GT.cells) (es := [q]) els_23 rfl rfl hrq rfl (by simp) rfl rfl (fun e90 b90 o90 he90 hA90 hc90 => ?_)
       obtain rfl : q = e90 := Option.some.inj he90
       refine sy_ldah (vs := GT.cells q) agg_30 rfl rfl hc90 rfl rfl ?_
       refine sy_ldah (vs := GT.cells g) agg_30 rfl rfl (Hp.blk hbx21) rfl rfl ?_
       refine sy_call rfl call_17 rfl (same_c q g _ hgq.1 hgq.2 hlg.1 hlg.2) rfl rfl ?_
       rw [same_refl (a := q.tm) (b := g.tm) (by rw [hq, hgt])]
       refine sy_setT (d := 93) rfl rfl rfl ?_
       refine sy_pickT rfl rfl rfl rfl ?_
       refine sy_assign rfl rfl rfl ?_
       refine sy_nil rfl ?_
       refine ny_next ?_
       refine cy_ret ?_
       refine ny_finR (res1 rfl rfl) (fun w hs2 => ⟨rfl, hs2.frm⟩)
set_option maxRecDepth 100000 in
theorem listsT_c (es : List UInt8) (A : Option Addr) (c : Nat) (h : Hp) (hR : RowsAt h A 1 (es.map byC)) (hh : Hdl h) (h0 : 1 ≤ es.length) : C0 Tryd.prog 6 [.slice A es.length c, .bool true] h (.bool true) := by
 refine enter0 Tryd.func6 rfl rfl rfl (fun w => ?_)
 refine cy_seq ?_
 refine cy_region ?_
 refine sy_assign rfl rfl rfl ?_
 refine sy_nil rfl ?_
 refine ny_next ?_
 refine cy_seq ?_
 refine cy_region ?_
 refine sy_call rfl call_9 rfl (shown07_c _ hh) rfl rfl ?_
 refine sy_setT (d := 13) rfl rfl rfl ?_
 refine sy_assign rfl rfl rfl ?_
 refine sy_nil rfl ?_
 refine ny_next ?_
 refine cy_seq ?_
 refine cy_seq ?_
 refine cy_region ?_
 refine sy_move rfl rfl rfl ?_
 refine sy_len rfl (len_slice Tryd.underlying36 _ _ _) rfl rfl ?_
 refine sy_cmp rfl rfl rfl rfl rfl ?_
 refine sy_nil rfl ?_
 refine ny_next ?_
 refine cy_cond rfl (fun hc16 => ?_) (fun hc16 => ?_)
 · refine cy_seq ?_
   refine cy_region ?_
   refine sy_move rfl rfl rfl ?_
   refine sy_assign rfl rfl rfl ?_
   refine sy_nil rfl ?_
   refine ny_next ?_
   refine cy_ret ?_
   refine ny_thenR ?_
   refine ny_finR (res1 rfl rfl) (fun w hs2 => ⟨rfl, hs2.frm⟩)
 · have hl2 : es.length ≤ 20 := by have := of_decide_eq_false hc16; omega
   have hbn : true = true → es ≠ [] := by
    intro h9
    first | (cases h9; done) | (intro h8; rw [h8] at h0; exact absurd h0 (by decide))
   refine cy_skip ?_
   refine ny_next ?_
   refine cy_seq ?_
   refine cy_region ?_
   refine sy_assign rfl rfl rfl ?_
   refine sy_nil rfl ?_
   refine ny_next ?_
   refine cy_seq ?_
   refine cy_region ?_
   refine sy_call rfl call_18 rfl (atom_c ⟨#[91, 93]⟩ _) rfl rfl ?_
   refine sy_alloc zer_30 rfl rfl (fun b7 hb7 hM7 => ?_) (by simp)
   first | refine sy_stl 0 sz_30 rfl rfl rfl rfl rfl rfl rfl rfl ?_ | refine sy_stl 1 sz_30 rfl rfl rfl rfl rfl rfl rfl rfl ?_ | refine sy_stl 2 sz_30 rfl rfl rfl rfl rfl rfl rfl rfl ?_ | refine sy_stl 3 sz_30 rfl rfl rfl rfl rfl rfl rfl rfl ?_ | refine sy_stl 4 sz_30 rfl rfl rfl rfl rfl rfl rfl rfl ?_ | refine sy_stl 5 sz_30 rfl rfl rfl rfl rfl rfl rfl rfl ?_
   refine sy_nil rfl ?_
   refine ny_next ?_
   refine cy_seq ?_
   refine cy_seq ?_
   refine cy_region ?_
   refine sy_move rfl rfl rfl ?_
   refine sy_setT (d := 19) rfl rfl rfl ?_
   refine sy_move rfl rfl rfl ?_
   refine sy_move rfl rfl rfl ?_
   refine sy_len rfl (len_slice Tryd.underlying36 _ _ _) rfl rfl ?_
   refine sy_cmp rfl rfl rfl rfl rfl ?_
   refine sy_setT (d := 23) rfl rfl (decide_eq_true (by omega)) ?_
   refine sy_pickT rfl rfl rfl rfl ?_
   refine sy_nil rfl ?_
   refine ny_next ?_
   refine cy_condT rfl ?_
   refine cy_region ?_
   refine sy_call rfl call_19 rfl (let_c 0 _) rfl rfl ?_
   first | refine sy_stl 0 sz_30 rfl rfl rfl rfl rfl rfl rfl rfl ?_ | refine sy_stl 1 sz_30 rfl rfl rfl rfl rfl rfl rfl rfl ?_ | refine sy_stl 2 sz_30 rfl rfl rfl rfl rfl rfl rfl rfl ?_ | refine sy_stl 3 sz_30 rfl rfl rfl rfl rfl rfl rfl rfl ?_ | refine sy_stl 4 sz_30 rfl rfl rfl rfl rfl rfl rfl rfl ?_ | refine sy_stl 5 sz_30 rfl rfl rfl rfl rfl rfl rfl rfl ?_
   refine sy_nil rfl ?_
   refine ny_next ?_
   refine cy_seq ?_
   refine cy_seq ?_
   refine cy_region ?_
   refine sy_move rfl rfl rfl ?_
   refine sy_len rfl (len_slice Tryd.underlying36 _ _ _) rfl rfl ?_
   refine sy_subi (z := ((es.length : Nat) : Int) - 1) rfl rfl rfl (by omega) (by omega) rfl rfl ?_
   refine sy_assign rfl rfl rfl ?_
   refine sy_nil rfl ?_
   refine ny_next ?_
   refine cy_block ?_
   refine cy_loopK (ι := (Nat × GT) × Hp) [0, 1, 5, 6, 7] rfl (fun z => z.1.1 ≤ es.length ∧ z.1.2.tm = pairsR ((es.drop z.1.1).map dgT) (lastL true) ∧ h.Le z.2 ∧ (Lies z.2 z.1.2 ∧ Fits z.1.2)) (fun z => z.1.1) (fun z => [(8, .int .i64 ((z.1.1 : Int) - 1))]) (fun z => z.2) (fun z => [.blk b7 (.cells (GT.cells z.1.2).toArray 30 (0, 0))]) ((es.length, (GT.mk 1 0 ⟨#[]⟩ none 0 [])), h) [0] ⟨Nat.le_refl _, (by rw [List.drop_length]; exact let_tm), Hp.Le.refl _, ⟨lies_leaf _ _ _ _, fits_leaf (by decide) (by decide) (by first | decide | omega) (by first | decide | omega) (by decide)⟩⟩ ⟨rfl, trivial⟩ rfl rfl ?_
   rintro ⟨⟨k, g⟩, hy⟩ ⟨hK, hgt, hlez, hlg⟩
   simp only at hK hgt hlez hlg ⊢
   have hRz := hR.le hlez
   refine cy_seq ?_
   refine cy_seq ?_
   refine cy_region ?_
   refine sy_move rfl rfl rfl ?_
   refine sy_cmp rfl rfl rfl rfl rfl ?_
   refine sy_nil rfl ?_
   refine ny_next ?_
   refine cy_cond rfl (fun hc30 => ?_) (fun hc30 => ?_)
   · have hk1 : 1 ≤ k := by have := of_decide_eq_true hc30; omega
     refine cy_skip ?_
     refine ny_next ?_
     refine cy_seq ?_
     refine cy_block ?_
     refine cy_regionA mixed ?_
     refine zy_q 0 rfl (by kernel_rfl) (fun hB11_0 => ?_)
     refine sy_move rfl rfl rfl ?_
     refine sy_nil1 (ny_zq hB11_0 ?_)
     refine zy_q 1 rfl (by kernel_rfl) (fun hB11_1 => ?_)
     refine sy_move rfl rfl rfl ?_
     refine sy_nil1 (ny_zq hB11_1 ?_)
     refine zy_q 2 rfl (by kernel_rfl) (fun hB11_2 => ?_)
     refine sy_idxR (i := k - 1) (fc := byC) (es := es) els_36 rfl (by show some (Value.int .i64 ((k : Int) - 1)) = some (.int .i64 ((k - 1 : Nat) : Int)); rw [show (k : Int) - 1 = ((k - 1 : Nat) : Int) by omega]) hRz rfl (by omega) rfl rfl (fun e35 b35 o35 he35 hA35 hc35 => ?_)
     refine sy_nil1 (ny_zq hB11_2 ?_)
     refine zy_q 3 rfl (by kernel_rfl) (fun hB11_3 => ?_)
     refine sy_ldh one_5 rfl (hc35 0 _ rfl) rfl rfl ?_
     refine sy_nil1 (ny_zq hB11_3 ?_)
     refine zy_q 4 rfl (by kernel_rfl) (fun hB11_4 => ?_)
     refine sy_rem8 (a := e35.toNat) (b := 10) rfl rfl (by decide) (by decide) (by have := e35.toNat_lt; omega) rfl rfl ?_
     refine sy_nil1 (ny_zq hB11_4 ?_)
     refine zy_q 5 rfl (by kernel_rfl) (fun hB11_5 => ?_)
     refine sy_convK (z := ((dgN e35 : Nat) : Int)) Tryd.underlying5 Tryd.underlying2 rfl (by have := dgN_lt e35; rw [IntWalk.i64_in _ ⟨by omega, by omega⟩]; rfl) rfl rfl ?_
     refine sy_nil1 (ny_zq hB11_5 ?_)
     refine zy_2 6 7 (by kernel_rfl) ?_ ?_
     · refine zop_run rfl rfl (fun hB11_6 => ?_)
       refine sy_call rfl call_15 rfl (num_c _ _) rfl rfl ?_
       refine sy_nil rfl (ny_zy hB11_6 (Hp.Le.refl _) ?_)
       refine zy_1 7 (by kernel_rfl) ?_
       refine zop_run rfl rfl (fun hB11_7 => ?_)
       first | refine sy_ldar 0 agg_30 rfl rfl rfl rfl rfl ?_ | refine sy_ldar 1 agg_30 rfl rfl rfl rfl rfl ?_ | refine sy_ldar 2 agg_30 rfl rfl rfl rfl rfl ?_ | refine sy_ldar 3 agg_30 rfl rfl rfl rfl rfl ?_ | refine sy_ldar 4 agg_30 rfl rfl rfl rfl rfl ?_ | refine sy_ldar 5 agg_30 rfl rfl rfl rfl rfl ?_
       refine sy_nil rfl (ny_zy hB11_7 (Hp.Le.refl _) ?_)
       refine zy_1 8 (by kernel_rfl) ?_
       refine zop_run rfl rfl (fun hB11_8 => ?_)
       refine sy_buildSlice (cs := [(GT.mk 2 ((dgN e35 : Nat) : Int) ⟨#[]⟩ none 0 []), g].flatMap GT.cells) rfl (fun w => bsl_23_2_0x1 w) rfl rfl (fun b41 hb41 hM41 => ?_) (by simp)
       refine sy_frz 0 rfl (by simp) (fun h41 hle41 hbx41 => ?_)
       have hr41 : RowsAt h41 (some ⟨b41, 0, none⟩) 4 ([(GT.mk 2 ((dgN e35 : Nat) : Int) ⟨#[]⟩ none 0 []), g].map GT.cells) := rows_blk (by decide) (GT.cells_len _) hbx41
       refine sy_nil rfl (ny_zy hB11_8 hle41 ?_)
       refine zy_1 9 (by kernel_rfl) ?_
       refine zop_run rfl rfl (fun hB11_9 => ?_)
       refine sy_callx call_16 rfl (make_c ⟨#[46]⟩ (some ⟨b41, 0, none⟩) 2 [(GT.mk 2 ((dgN e35 : Nat) : Int) ⟨#[]⟩ none 0 []), g] _ rfl hr41 (by simp)) rfl rfl (fun x42 h42 hx42 hle42 => ?_)
       obtain ⟨A42, c42⟩ := x42
       have hlf42 : Lies h42 (GT.mk 3 0 ⟨#[46]⟩ A42 c42 [(GT.mk 2 ((dgN e35 : Nat) : Int) ⟨#[]⟩ none 0 []), g]) ∧ Fits (GT.mk 3 0 ⟨#[46]⟩ A42 c42 [(GT.mk 2 ((dgN e35 : Nat) : Int) ⟨#[]⟩ none 0 []), g]) := ⟨.intro _ _ _ _ _ _ hx42.2 hx42.1 (fun t h9 => (duo (h := h42) ⟨lies_leaf _ _ _ _, fits_leaf (by decide) (by decide) (by have := dgN_lt e35; omega) (by have := dgN_lt e35; omega) (by decide)⟩ ⟨(hlg.1.le hle41).le hle42, hlg.2⟩ t h9).1), fits_kids (by decide) (by decide) (by decide) (by decide) (by decide) (by simp) (fun t h9 => (duo (h := h42) ⟨lies_leaf _ _ _ _, fits_leaf (by decide) (by decide) (by have := dgN_lt e35; omega) (by have := dgN_lt e35; omega) (by decide)⟩ ⟨(hlg.1.le hle41).le hle42, hlg.2⟩ t h9).2)⟩
       refine sy_nil rfl (ny_zy hB11_9 hle42 ?_)
       refine zy_1 10 (by kernel_rfl) ?_
       refine zop_run rfl rfl (fun hB11_10 => ?_)
       first | refine sy_stl 0 sz_30 rfl rfl rfl rfl rfl rfl rfl rfl ?_ | refine sy_stl 1 sz_30 rfl rfl rfl rfl rfl rfl rfl rfl ?_ | refine sy_stl 2 sz_30 rfl rfl rfl rfl rfl rfl rfl rfl ?_ | refine sy_stl 3 sz_30 rfl rfl rfl rfl rfl rfl rfl rfl ?_ | refine sy_stl 4 sz_30 rfl rfl rfl rfl rfl rfl rfl rfl ?_ | refine sy_stl 5 sz_30 rfl rfl rfl rfl rfl rfl rfl rfl ?_
       refine sy_nil rfl (ny_zy hB11_10 (Hp.Le.refl _) ?_)
       refine zy_done (by kernel_rfl) ?_
       refine ny_blockN ?_
       refine ny_next ?_
       refine cy_region ?_
       refine sy_move rfl rfl rfl ?_
       refine sy_subi (z := (k : Int) - 1 - 1) rfl rfl rfl (by omega) (by omega) rfl rfl ?_
       refine sy_assign rfl rfl rfl ?_
       refine sy_nil rfl ?_
       refine ny_roundK [0, 1, 5, 6, 7] ((k - 1, (GT.mk 3 0 ⟨#[46]⟩ A42 c42 [(GT.mk 2 ((dgN e35 : Nat) : Int) ⟨#[]⟩ none 0 []), g])), h42) [0] ⟨(show k - 1 ≤ es.length by omega), (by show _ = pairsR ((es.drop (k - 1)).map dgT) _; rw [pairs_stepU he35, show k - 1 + 1 = k by omega, ← hgt]; simp only [GT.tm_mk, List.map_cons, List.map_nil]; rfl), (hlez.trans hle41).trans hle42, hlf42⟩ (show k - 1 < k by omega) rfl ⟨congrArg (fun z => some (Value.int .i64 z)) (by show (k : Int) - 1 - 1 = ((k - 1 : Nat) : Int) - 1; omega), trivial⟩ rfl rfl
     · refine zop_run rfl rfl (fun hB11_7 => ?_)
       first | refine sy_ldar 0 agg_30 rfl rfl rfl rfl rfl ?_ | refine sy_ldar 1 agg_30 rfl rfl rfl rfl rfl ?_ | refine sy_ldar 2 agg_30 rfl rfl rfl rfl rfl ?_ | refine sy_ldar 3 agg_30 rfl rfl rfl rfl rfl ?_ | refine sy_ldar 4 agg_30 rfl rfl rfl rfl rfl ?_ | refine sy_ldar 5 agg_30 rfl rfl rfl rfl rfl ?_
       refine sy_nil rfl (ny_zy hB11_7 (Hp.Le.refl _) ?_)
       refine zy_1 6 (by kernel_rfl) ?_
       refine zop_run rfl rfl (fun hB11_6 => ?_)
       refine sy_call rfl call_15 rfl (num_c _ _) rfl rfl ?_
       refine sy_nil rfl (ny_zy hB11_6 (Hp.Le.refl _) ?_)
       refine zy_1 8 (by kernel_rfl) ?_
       refine zop_run rfl rfl (fun hB11_8 => ?_)
       refine sy_buildSlice (cs := [(GT.mk 2 ((dgN e35 : Nat) : Int) ⟨#[]⟩ none 0 []), g].flatMap GT.cells) rfl (fun w => bsl_23_2_0x1 w) rfl rfl (fun b41 hb41 hM41 => ?_) (by simp)
       refine sy_frz 0 rfl (by simp) (fun h41 hle41 hbx41 => ?_)
       have hr41 : RowsAt h41 (some ⟨b41, 0, none⟩) 4 ([(GT.mk 2 ((dgN e35 : Nat) : Int) ⟨#[]⟩ none 0 []), g].map GT.cells) := rows_blk (by decide) (GT.cells_len _) hbx41
       refine sy_nil rfl (ny_zy hB11_8 hle41 ?_)
       refine zy_1 9 (by kernel_rfl) ?_
       refine zop_run rfl rfl (fun hB11_9 => ?_)
       refine sy_callx call_16 rfl (make_c ⟨#[46]⟩ (some ⟨b41, 0, none⟩) 2 [(GT.mk 2 ((dgN e35 : Nat) : Int) ⟨#[]⟩ none 0 []), g] _ rfl hr41 (by simp)) rfl rfl (fun x42 h42 hx42 hle42 => ?_)
       obtain ⟨A42, c42⟩ := x42
       have hlf42 : Lies h42 (GT.mk 3 0 ⟨#[46]⟩ A42 c42 [(GT.mk 2 ((dgN e35 : Nat) : Int) ⟨#[]⟩ none 0 []), g]) ∧ Fits (GT.mk 3 0 ⟨#[46]⟩ A42 c42 [(GT.mk 2 ((dgN e35 : Nat) : Int) ⟨#[]⟩ none 0 []), g]) := ⟨.intro _ _ _ _ _ _ hx42.2 hx42.1 (fun t h9 => (duo (h := h42) ⟨lies_leaf _ _ _ _, fits_leaf (by decide) (by decide) (by have := dgN_lt e35; omega) (by have := dgN_lt e35; omega) (by decide)⟩ ⟨(hlg.1.le hle41).le hle42, hlg.2⟩ t h9).1), fits_kids (by decide) (by decide) (by decide) (by decide) (by decide) (by simp) (fun t h9 => (duo (h := h42) ⟨lies_leaf _ _ _ _, fits_leaf (by decide) (by decide) (by have := dgN_lt e35; omega) (by have := dgN_lt e35; omega) (by decide)⟩ ⟨(hlg.1.le hle41).le hle42, hlg.2⟩ t h9).2)⟩
       refine sy_nil rfl (ny_zy hB11_9 hle42 ?_)
       refine zy_1 10 (by kernel_rfl) ?_
       refine zop_run rfl rfl (fun hB11_10 => ?_)
       first | refine sy_stl 0 sz_30 rfl rfl rfl rfl rfl rfl rfl rfl ?_ | refine sy_stl 1 sz_30 rfl rfl rfl rfl rfl rfl rfl rfl ?_ | refine sy_stl 2 sz_30 rfl rfl rfl rfl rfl rfl rfl rfl ?_ | refine sy_stl 3 sz_30 rfl rfl rfl rfl rfl rfl rfl rfl ?_ | refine sy_stl 4 sz_30 rfl rfl rfl rfl rfl rfl rfl rfl ?_ | refine sy_stl 5 sz_30 rfl rfl rfl rfl rfl rfl rfl rfl ?_
       refine sy_nil rfl (ny_zy hB11_10 (Hp.Le.refl _) ?_)
       refine zy_done (by kernel_rfl) ?_
       refine ny_blockN ?_
       refine ny_next ?_
       refine cy_region ?_
       refine sy_move rfl rfl rfl ?_
       refine sy_subi (z := (k : Int) - 1 - 1) rfl rfl rfl (by omega) (by omega) rfl rfl ?_
       refine sy_assign rfl rfl rfl ?_
       refine sy_nil rfl ?_
       refine ny_roundK [0, 1, 5, 6, 7] ((k - 1, (GT.mk 3 0 ⟨#[46]⟩ A42 c42 [(GT.mk 2 ((dgN e35 : Nat) : Int) ⟨#[]⟩ none 0 []), g])), h42) [0] ⟨(show k - 1 ≤ es.length by omega), (by show _ = pairsR ((es.drop (k - 1)).map dgT) _; rw [pairs_stepU he35, show k - 1 + 1 = k by omega, ← hgt]; simp only [GT.tm_mk, List.map_cons, List.map_nil]; rfl), (hlez.trans hle41).trans hle42, hlf42⟩ (show k - 1 < k by omega) rfl ⟨congrArg (fun z => some (Value.int .i64 z)) (by show (k : Int) - 1 - 1 = ((k - 1 : Nat) : Int) - 1; omega), trivial⟩ rfl rfl
   · have hk0 : k = 0 := by have := of_decide_eq_false hc30; omega
     subst hk0
     rw [List.drop_zero] at hgt
     refine cy_exit ?_
     refine ny_thenE ?_
     refine ny_thenE ?_
     refine ny_blockX ?_
     refine ny_next ?_
     refine cy_seq ?_
     refine cy_seq ?_
     refine cy_region ?_
     refine sy_assign rfl rfl rfl ?_
     refine sy_nil rfl ?_
     refine ny_next ?_
     refine cy_block ?_
     refine cy_loopK (ι := Nat) [0, 1, 5, 7] rfl (fun j => j ≤ es.length) (fun j => es.length - j) (fun j => [(6, .string ⟨(91 :: elC ((es.take j).map dgN)).toArray⟩), (9, .int .i64 (j : Int))]) (fun j => hy) (fun j => [.blk b7 (.cells (GT.cells g).toArray 30 (0, 0))]) 0 [0] (Nat.zero_le _) ⟨rfl, rfl, trivial⟩ rfl rfl ?_
     rintro j hJ
     refine cy_seq ?_
     refine cy_seq ?_
     refine cy_region ?_
     refine sy_move rfl rfl rfl ?_
     refine sy_move rfl rfl rfl ?_
     refine sy_len rfl (len_slice Tryd.underlying36 _ _ _) rfl rfl ?_
     refine sy_cmp rfl rfl rfl rfl rfl ?_
     refine sy_nil rfl ?_
     refine ny_next ?_
     refine cy_cond rfl (fun hc46 => ?_) (fun hc46 => ?_)
     · have hltj : j < es.length := by have := of_decide_eq_true hc46; omega
       refine cy_skip ?_
       refine ny_next ?_
       refine cy_seq ?_
       refine cy_block ?_
       refine cy_seq ?_
       refine cy_seq ?_
       refine cy_region ?_
       refine sy_move rfl rfl rfl ?_
       refine sy_cmp rfl rfl rfl rfl rfl ?_
       refine sy_nil rfl ?_
       refine ny_next ?_
       refine cy_cond rfl (fun hc50 => ?_) (fun hc50 => ?_)
       · have hj0 : ¬ j = 0 := by have := of_decide_eq_true hc50; omega
         refine cy_region ?_
         refine sy_move rfl rfl rfl ?_
         refine sy_cat rfl rfl (by have h9 := elC_len ((es.take j).map dgN); rw [List.length_map, List.length_take] at h9; (try simp only [ByteArray.size_append]); simp only [bz, List.length_cons, List.length_nil]; omega) rfl rfl ?_
         refine sy_assign rfl rfl rfl ?_
         refine sy_nil rfl ?_
         refine ny_next ?_
         refine cy_region ?_
         refine sy_move rfl rfl rfl ?_
         refine sy_move rfl rfl rfl ?_
         refine sy_move rfl rfl rfl ?_
         refine sy_idxR (i := j) (fc := byC) (es := es) els_36 rfl rfl hRz rfl (by omega) rfl rfl (fun e56 b56 o56 he56 hA56 hc56 => ?_)
         refine sy_ldh one_5 rfl (hc56 0 _ rfl) rfl rfl ?_
         refine sy_rem8 (a := e56.toNat) (b := 10) rfl rfl (by decide) (by decide) (by have := e56.toNat_lt; omega) rfl rfl ?_
         refine sy_addK (z := ((48 + dgN e56 : Nat) : Int)) rfl rfl (by have := dgN_lt e56; rw [IntWalk.u8_in _ ⟨by omega, by omega⟩]; unfold dgN; omega) rfl rfl ?_
         refine sy_buildSlice rfl (fun w => bsl_36_1_0 w) rfl rfl (fun b60 hb60 hM60 => ?_) (by simp)
         refine sy_byte1 (u := digC (dgN e56)) 0 Tryd.underlying36 Tryd.underlying5 Tryd.underlying9 rfl rfl (dig_byte e56) rfl rfl ?_
         refine sy_cat rfl rfl (by have h9 := elC_len ((es.take j).map dgN); rw [List.length_map, List.length_take] at h9; (try simp only [ByteArray.size_append]); simp only [bz, List.length_cons, List.length_nil]; omega) rfl rfl ?_
         refine sy_assign rfl rfl rfl ?_
         refine sy_nil rfl ?_
         refine ny_blockN ?_
         refine ny_next ?_
         refine cy_region ?_
         refine sy_move rfl rfl rfl ?_
         refine sy_addi (z := ((j + 1 : Nat) : Int)) rfl rfl (by omega) (by omega) (by omega) rfl rfl ?_
         refine sy_assign rfl rfl rfl ?_
         refine sy_nil rfl ?_
         refine ny_roundK [0, 1, 5, 7] (j + 1) [1] (show j + 1 ≤ es.length by omega) (show es.length - (j + 1) < es.length - j by omega) rfl ⟨congrArg (fun z => some (Value.string z)) (ls_more he56 hj0), rfl, trivial⟩ rfl rfl
       · have hj0 : j = 0 := by have := of_decide_eq_false hc50; omega
         refine cy_skip ?_
         refine ny_next ?_
         refine cy_region ?_
         refine sy_move rfl rfl rfl ?_
         refine sy_move rfl rfl rfl ?_
         refine sy_move rfl rfl rfl ?_
         refine sy_idxR (i := j) (fc := byC) (es := es) els_36 rfl rfl hRz rfl (by omega) rfl rfl (fun e56 b56 o56 he56 hA56 hc56 => ?_)
         refine sy_ldh one_5 rfl (hc56 0 _ rfl) rfl rfl ?_
         refine sy_rem8 (a := e56.toNat) (b := 10) rfl rfl (by decide) (by decide) (by have := e56.toNat_lt; omega) rfl rfl ?_
         refine sy_addK (z := ((48 + dgN e56 : Nat) : Int)) rfl rfl (by have := dgN_lt e56; rw [IntWalk.u8_in _ ⟨by omega, by omega⟩]; unfold dgN; omega) rfl rfl ?_
         refine sy_buildSlice rfl (fun w => bsl_36_1_0 w) rfl rfl (fun b60 hb60 hM60 => ?_) (by simp)
         refine sy_byte1 (u := digC (dgN e56)) 0 Tryd.underlying36 Tryd.underlying5 Tryd.underlying9 rfl rfl (dig_byte e56) rfl rfl ?_
         refine sy_cat rfl rfl (by have h9 := elC_len ((es.take j).map dgN); rw [List.length_map, List.length_take] at h9; (try simp only [ByteArray.size_append]); simp only [bz, List.length_cons, List.length_nil]; omega) rfl rfl ?_
         refine sy_assign rfl rfl rfl ?_
         refine sy_nil rfl ?_
         refine ny_blockN ?_
         refine ny_next ?_
         refine cy_region ?_
         refine sy_move rfl rfl rfl ?_
         refine sy_addi (z := ((j + 1 : Nat) : Int)) rfl rfl (by omega) (by omega) (by omega) rfl rfl ?_
         refine sy_assign rfl rfl rfl ?_
         refine sy_nil rfl ?_
         refine ny_roundK [0, 1, 5, 7] (j + 1) [1] (show j + 1 ≤ es.length by omega) (show es.length - (j + 1) < es.length - j by omega) rfl ⟨congrArg (fun z => some (Value.string z)) (by rw [hj0]; exact ls_first (by rw [← hj0]; exact he56)), rfl, trivial⟩ rfl rfl
     · have hje : j = es.length := by have := of_decide_eq_false hc46; omega
       subst hje
       rw [List.take_length]
       refine cy_exit ?_
       refine ny_thenE ?_
       refine ny_thenE ?_
       refine ny_blockX ?_
       refine ny_next ?_
       refine cy_seq ?_
       refine cy_seq ?_
       refine cy_region ?_
       refine sy_move rfl rfl rfl ?_
       refine sy_setT (d := 63) rfl rfl rfl ?_
       refine sy_move rfl rfl rfl ?_
       refine sy_move rfl rfl rfl ?_
       refine sy_len rfl (len_slice Tryd.underlying36 _ _ _) rfl rfl ?_
       refine sy_cmp rfl rfl rfl rfl rfl ?_
       refine sy_setT (d := 67) rfl rfl (decide_eq_true (by omega)) ?_
       refine sy_pickT rfl rfl rfl rfl ?_
       refine sy_nil rfl ?_
       refine ny_next ?_
       refine cy_condT rfl ?_
       refine cy_region ?_
       refine sy_move rfl rfl rfl ?_
       refine sy_cat rfl rfl (by have h9 := elC_len (es.map dgN); rw [List.length_map] at h9; (try simp only [ByteArray.size_append]); simp only [bz, List.length_cons, List.length_nil]; omega) rfl rfl ?_
       refine sy_assign rfl rfl rfl ?_
       refine sy_nil rfl ?_
       refine ny_next ?_
       refine cy_seq ?_
       refine cy_region ?_
       refine sy_move rfl rfl rfl ?_
       refine sy_cat rfl rfl (by have h9 := elC_len (es.map dgN); rw [List.length_map] at h9; (try simp only [ByteArray.size_append]); simp only [bz, List.length_cons, List.length_nil]; omega) rfl rfl ?_
       have hhz := hh.le hlez
       replace hh := hhz
       refine sy_callx call_10 rfl (allL_c _ (lsC (es.map dgN) true) (by first | (rw [ba_cat, ba_cat]; simp [lsC, tlC]; done) | (rw [ba_cat]; simp [lsC, tlC])) (1) _ hh) rfl rfl (fun x74 h74 hx74 hle74 => ?_)
       obtain ⟨es74, A74, c74⟩ := x74
       obtain ⟨hT74, hr74, hc74, hz74, hg74⟩ := hx74
       simp only at hT74 hr74 hc74 hz74 hg74 ⊢
       replace hh := hh.le hle74
       rw [ls_end hbn hl2] at hT74 ⊢
       obtain ⟨q, rfl, hq⟩ := map_one hT74
       refine sy_move rfl rfl rfl ?_
       refine sy_extract rfl rfl rfl rfl ?_
       refine sy_extract rfl rfl rfl rfl ?_
       refine sy_extract rfl rfl rfl rfl ?_
       refine sy_assign rfl rfl rfl ?_
       refine sy_assign rfl rfl rfl ?_
       refine sy_assign rfl rfl rfl ?_
       refine sy_nil rfl ?_
       refine ny_next ?_
       refine cy_seq ?_
       refine cy_frz 0 rfl (by simp) (fun h21 hle21 hbx21 => ?_)
       have hrq := hr74.le hle21
       have hgq : Lies h21 q ∧ Fits q := ⟨(hg74 q (by simp)).1.1.le hle21, (hg74 q (by simp)).1.2⟩
       replace hlg : Lies h21 g ∧ Fits g := ⟨(hlg.1.le hle74).le hle21, hlg.2⟩
       refine cy_regionQ mixed (by kernel_rfl) ?_
       refine sy_move rfl rfl rfl ?_
       refine sy_move rfl rfl rfl ?_
       refine sy_move rfl rfl rfl ?_
       refine sy_cmp rfl rfl rfl rfl rfl ?_
       refine sy_pickT rfl rfl rfl rfl ?_
       refine sy_move rfl rfl rfl ?_
       refine sy_setT (d := 83) rfl rfl (by first | rfl | (simp; done)) ?_
       refine sy_move rfl rfl rfl ?_
       refine sy_len rfl (len_slice Tryd.underlying23 _ _ _) rfl rfl ?_
       refine sy_cmp rfl rfl rfl rfl rfl ?_
       refine sy_pickT rfl rfl rfl rfl ?_
       refine sy_move rfl rfl rfl ?_
       refine sy_setT (d := 88) rfl rfl (by first | rfl | (simp; done)) ?_
       refine sy_move rfl rfl rfl ?_
       refine sy_idxR (i := 0) (fc := GT.cells) (es := [q]) els_23 rfl rfl hrq rfl (by simp) rfl rfl (fun e90 b90 o90 he90 hA90 hc90 => ?_)
       obtain rfl : q = e90 := Option.some.inj he90
       refine sy_ldah (vs := GT.cells q) agg_30 rfl rfl hc90 rfl rfl ?_
       refine sy_ldah (vs := GT.cells g) agg_30 rfl rfl (Hp.blk hbx21) rfl rfl ?_
       refine sy_call rfl call_17 rfl (same_c q g _ hgq.1 hgq.2 hlg.1 hlg.2) rfl rfl ?_
       rw [same_refl (a := q.tm) (b := g.tm) (by rw [hq, hgt])]
       refine sy_setT (d := 93) rfl rfl rfl ?_
       refine sy_pickT rfl rfl rfl rfl ?_
       refine sy_assign rfl rfl rfl ?_
       refine sy_nil rfl ?_
       refine ny_next ?_
       refine cy_ret ?_
       refine ny_finR (res1 rfl rfl) (fun w hs2 => ⟨rfl, hs2.frm⟩)
set_option maxRecDepth 100000 in
theorem listsN_c (es : List UInt8) (A : Option Addr) (c : Nat) (h : Hp) (hR : RowsAt h A 1 (es.map byC)) (hh : Hdl h) (h0 : es.length = 0) : C0 Tryd.prog 6 [.slice A es.length c, .bool true] h (.bool true) := by
 refine enter0 Tryd.func6 rfl rfl rfl (fun w => ?_)
 refine cy_seq ?_
 refine cy_region ?_
 refine sy_assign rfl rfl rfl ?_
 refine sy_nil rfl ?_
 refine ny_next ?_
 refine cy_seq ?_
 refine cy_region ?_
 refine sy_call rfl call_9 rfl (shown07_c _ hh) rfl rfl ?_
 refine sy_setT (d := 13) rfl rfl rfl ?_
 refine sy_assign rfl rfl rfl ?_
 refine sy_nil rfl ?_
 refine ny_next ?_
 refine cy_seq ?_
 refine cy_seq ?_
 refine cy_region ?_
 refine sy_move rfl rfl rfl ?_
 refine sy_len rfl (len_slice Tryd.underlying36 _ _ _) rfl rfl ?_
 refine sy_cmp rfl rfl rfl rfl rfl ?_
 refine sy_nil rfl ?_
 refine ny_next ?_
 refine cy_cond rfl (fun hc16 => ?_) (fun hc16 => ?_)
 · refine cy_seq ?_
   refine cy_region ?_
   refine sy_move rfl rfl rfl ?_
   refine sy_assign rfl rfl rfl ?_
   refine sy_nil rfl ?_
   refine ny_next ?_
   refine cy_ret ?_
   refine ny_thenR ?_
   refine ny_finR (res1 rfl rfl) (fun w hs2 => ⟨rfl, hs2.frm⟩)
 · have hl2 : es.length ≤ 20 := by have := of_decide_eq_false hc16; omega
   have hbn : false = true → es ≠ [] := by
    intro h9
    first | (cases h9; done) | (intro h8; rw [h8] at h0; exact absurd h0 (by decide))
   refine cy_skip ?_
   refine ny_next ?_
   refine cy_seq ?_
   refine cy_region ?_
   refine sy_assign rfl rfl rfl ?_
   refine sy_nil rfl ?_
   refine ny_next ?_
   refine cy_seq ?_
   refine cy_region ?_
   refine sy_call rfl call_18 rfl (atom_c ⟨#[91, 93]⟩ _) rfl rfl ?_
   refine sy_alloc zer_30 rfl rfl (fun b7 hb7 hM7 => ?_) (by simp)
   first | refine sy_stl 0 sz_30 rfl rfl rfl rfl rfl rfl rfl rfl ?_ | refine sy_stl 1 sz_30 rfl rfl rfl rfl rfl rfl rfl rfl ?_ | refine sy_stl 2 sz_30 rfl rfl rfl rfl rfl rfl rfl rfl ?_ | refine sy_stl 3 sz_30 rfl rfl rfl rfl rfl rfl rfl rfl ?_ | refine sy_stl 4 sz_30 rfl rfl rfl rfl rfl rfl rfl rfl ?_ | refine sy_stl 5 sz_30 rfl rfl rfl rfl rfl rfl rfl rfl ?_
   refine sy_nil rfl ?_
   refine ny_next ?_
   refine cy_seq ?_
   refine cy_seq ?_
   refine cy_region ?_
   refine sy_move rfl rfl rfl ?_
   refine sy_setT (d := 19) rfl rfl rfl ?_
   refine sy_move rfl rfl rfl ?_
   refine sy_move rfl rfl rfl ?_
   refine sy_len rfl (len_slice Tryd.underlying36 _ _ _) rfl rfl ?_
   refine sy_cmp rfl rfl rfl rfl rfl ?_
   refine sy_setF (d := 23) rfl rfl (decide_eq_false (by omega)) ?_
   refine sy_pickT rfl rfl rfl rfl ?_
   refine sy_nil rfl ?_
   refine ny_next ?_
   refine cy_condF rfl ?_
   refine cy_skip ?_
   refine ny_next ?_
   refine cy_seq ?_
   refine cy_seq ?_
   refine cy_region ?_
   refine sy_move rfl rfl rfl ?_
   refine sy_len rfl (len_slice Tryd.underlying36 _ _ _) rfl rfl ?_
   refine sy_subi (z := ((es.length : Nat) : Int) - 1) rfl rfl rfl (by omega) (by omega) rfl rfl ?_
   refine sy_assign rfl rfl rfl ?_
   refine sy_nil rfl ?_
   refine ny_next ?_
   refine cy_block ?_
   refine cy_loopK (ι := (Nat × GT) × Hp) [0, 1, 5, 6, 7] rfl (fun z => z.1.1 ≤ es.length ∧ z.1.2.tm = pairsR ((es.drop z.1.1).map dgT) (lastL false) ∧ h.Le z.2 ∧ (Lies z.2 z.1.2 ∧ Fits z.1.2)) (fun z => z.1.1) (fun z => [(8, .int .i64 ((z.1.1 : Int) - 1))]) (fun z => z.2) (fun z => [.blk b7 (.cells (GT.cells z.1.2).toArray 30 (0, 0))]) ((es.length, (GT.mk 3 0 ⟨#[91, 93]⟩ none 0 [])), h) [0] ⟨Nat.le_refl _, (by rw [List.drop_length]; exact nil_tm), Hp.Le.refl _, ⟨lies_leaf _ _ _ _, fits_leaf (by decide) (by decide) (by first | decide | omega) (by first | decide | omega) (by decide)⟩⟩ ⟨rfl, trivial⟩ rfl rfl ?_
   rintro ⟨⟨k, g⟩, hy⟩ ⟨hK, hgt, hlez, hlg⟩
   simp only at hK hgt hlez hlg ⊢
   have hRz := hR.le hlez
   refine cy_seq ?_
   refine cy_seq ?_
   refine cy_region ?_
   refine sy_move rfl rfl rfl ?_
   refine sy_cmp rfl rfl rfl rfl rfl ?_
   refine sy_nil rfl ?_
   refine ny_next ?_
   refine cy_cond rfl (fun hc30 => ?_) (fun hc30 => ?_)
   · have hk1 : 1 ≤ k := by have := of_decide_eq_true hc30; omega
     refine cy_skip ?_
     refine ny_next ?_
     refine cy_seq ?_
     refine cy_block ?_
     refine cy_regionA mixed ?_
     refine zy_q 0 rfl (by kernel_rfl) (fun hB11_0 => ?_)
     refine sy_move rfl rfl rfl ?_
     refine sy_nil1 (ny_zq hB11_0 ?_)
     refine zy_q 1 rfl (by kernel_rfl) (fun hB11_1 => ?_)
     refine sy_move rfl rfl rfl ?_
     refine sy_nil1 (ny_zq hB11_1 ?_)
     refine zy_q 2 rfl (by kernel_rfl) (fun hB11_2 => ?_)
     refine sy_idxR (i := k - 1) (fc := byC) (es := es) els_36 rfl (by show some (Value.int .i64 ((k : Int) - 1)) = some (.int .i64 ((k - 1 : Nat) : Int)); rw [show (k : Int) - 1 = ((k - 1 : Nat) : Int) by omega]) hRz rfl (by omega) rfl rfl (fun e35 b35 o35 he35 hA35 hc35 => ?_)
     refine sy_nil1 (ny_zq hB11_2 ?_)
     refine zy_q 3 rfl (by kernel_rfl) (fun hB11_3 => ?_)
     refine sy_ldh one_5 rfl (hc35 0 _ rfl) rfl rfl ?_
     refine sy_nil1 (ny_zq hB11_3 ?_)
     refine zy_q 4 rfl (by kernel_rfl) (fun hB11_4 => ?_)
     refine sy_rem8 (a := e35.toNat) (b := 10) rfl rfl (by decide) (by decide) (by have := e35.toNat_lt; omega) rfl rfl ?_
     refine sy_nil1 (ny_zq hB11_4 ?_)
     refine zy_q 5 rfl (by kernel_rfl) (fun hB11_5 => ?_)
     refine sy_convK (z := ((dgN e35 : Nat) : Int)) Tryd.underlying5 Tryd.underlying2 rfl (by have := dgN_lt e35; rw [IntWalk.i64_in _ ⟨by omega, by omega⟩]; rfl) rfl rfl ?_
     refine sy_nil1 (ny_zq hB11_5 ?_)
     refine zy_2 6 7 (by kernel_rfl) ?_ ?_
     · refine zop_run rfl rfl (fun hB11_6 => ?_)
       refine sy_call rfl call_15 rfl (num_c _ _) rfl rfl ?_
       refine sy_nil rfl (ny_zy hB11_6 (Hp.Le.refl _) ?_)
       refine zy_1 7 (by kernel_rfl) ?_
       refine zop_run rfl rfl (fun hB11_7 => ?_)
       first | refine sy_ldar 0 agg_30 rfl rfl rfl rfl rfl ?_ | refine sy_ldar 1 agg_30 rfl rfl rfl rfl rfl ?_ | refine sy_ldar 2 agg_30 rfl rfl rfl rfl rfl ?_ | refine sy_ldar 3 agg_30 rfl rfl rfl rfl rfl ?_ | refine sy_ldar 4 agg_30 rfl rfl rfl rfl rfl ?_ | refine sy_ldar 5 agg_30 rfl rfl rfl rfl rfl ?_
       refine sy_nil rfl (ny_zy hB11_7 (Hp.Le.refl _) ?_)
       refine zy_1 8 (by kernel_rfl) ?_
       refine zop_run rfl rfl (fun hB11_8 => ?_)
       refine sy_buildSlice (cs := [(GT.mk 2 ((dgN e35 : Nat) : Int) ⟨#[]⟩ none 0 []), g].flatMap GT.cells) rfl (fun w => bsl_23_2_0x1 w) rfl rfl (fun b41 hb41 hM41 => ?_) (by simp)
       refine sy_frz 0 rfl (by simp) (fun h41 hle41 hbx41 => ?_)
       have hr41 : RowsAt h41 (some ⟨b41, 0, none⟩) 4 ([(GT.mk 2 ((dgN e35 : Nat) : Int) ⟨#[]⟩ none 0 []), g].map GT.cells) := rows_blk (by decide) (GT.cells_len _) hbx41
       refine sy_nil rfl (ny_zy hB11_8 hle41 ?_)
       refine zy_1 9 (by kernel_rfl) ?_
       refine zop_run rfl rfl (fun hB11_9 => ?_)
       refine sy_callx call_16 rfl (make_c ⟨#[46]⟩ (some ⟨b41, 0, none⟩) 2 [(GT.mk 2 ((dgN e35 : Nat) : Int) ⟨#[]⟩ none 0 []), g] _ rfl hr41 (by simp)) rfl rfl (fun x42 h42 hx42 hle42 => ?_)
       obtain ⟨A42, c42⟩ := x42
       have hlf42 : Lies h42 (GT.mk 3 0 ⟨#[46]⟩ A42 c42 [(GT.mk 2 ((dgN e35 : Nat) : Int) ⟨#[]⟩ none 0 []), g]) ∧ Fits (GT.mk 3 0 ⟨#[46]⟩ A42 c42 [(GT.mk 2 ((dgN e35 : Nat) : Int) ⟨#[]⟩ none 0 []), g]) := ⟨.intro _ _ _ _ _ _ hx42.2 hx42.1 (fun t h9 => (duo (h := h42) ⟨lies_leaf _ _ _ _, fits_leaf (by decide) (by decide) (by have := dgN_lt e35; omega) (by have := dgN_lt e35; omega) (by decide)⟩ ⟨(hlg.1.le hle41).le hle42, hlg.2⟩ t h9).1), fits_kids (by decide) (by decide) (by decide) (by decide) (by decide) (by simp) (fun t h9 => (duo (h := h42) ⟨lies_leaf _ _ _ _, fits_leaf (by decide) (by decide) (by have := dgN_lt e35; omega) (by have := dgN_lt e35; omega) (by decide)⟩ ⟨(hlg.1.le hle41).le hle42, hlg.2⟩ t h9).2)⟩
       refine sy_nil rfl (ny_zy hB11_9 hle42 ?_)
       refine zy_1 10 (by kernel_rfl) ?_
       refine zop_run rfl rfl (fun hB11_10 => ?_)
       first | refine sy_stl 0 sz_30 rfl rfl rfl rfl rfl rfl rfl rfl ?_ | refine sy_stl 1 sz_30 rfl rfl rfl rfl rfl rfl rfl rfl ?_ | refine sy_stl 2 sz_30 rfl rfl rfl rfl rfl rfl rfl rfl ?_ | refine sy_stl 3 sz_30 rfl rfl rfl rfl rfl rfl rfl rfl ?_ | refine sy_stl 4 sz_30 rfl rfl rfl rfl rfl rfl rfl rfl ?_ | refine sy_stl 5 sz_30 rfl rfl rfl rfl rfl rfl rfl rfl ?_
       refine sy_nil rfl (ny_zy hB11_10 (Hp.Le.refl _) ?_)
       refine zy_done (by kernel_rfl) ?_
       refine ny_blockN ?_
       refine ny_next ?_
       refine cy_region ?_
       refine sy_move rfl rfl rfl ?_
       refine sy_subi (z := (k : Int) - 1 - 1) rfl rfl rfl (by omega) (by omega) rfl rfl ?_
       refine sy_assign rfl rfl rfl ?_
       refine sy_nil rfl ?_
       refine ny_roundK [0, 1, 5, 6, 7] ((k - 1, (GT.mk 3 0 ⟨#[46]⟩ A42 c42 [(GT.mk 2 ((dgN e35 : Nat) : Int) ⟨#[]⟩ none 0 []), g])), h42) [0] ⟨(show k - 1 ≤ es.length by omega), (by show _ = pairsR ((es.drop (k - 1)).map dgT) _; rw [pairs_stepU he35, show k - 1 + 1 = k by omega, ← hgt]; simp only [GT.tm_mk, List.map_cons, List.map_nil]; rfl), (hlez.trans hle41).trans hle42, hlf42⟩ (show k - 1 < k by omega) rfl ⟨congrArg (fun z => some (Value.int .i64 z)) (by show (k : Int) - 1 - 1 = ((k - 1 : Nat) : Int) - 1; omega), trivial⟩ rfl rfl
     · refine zop_run rfl rfl (fun hB11_7 => ?_)
       first | refine sy_ldar 0 agg_30 rfl rfl rfl rfl rfl ?_ | refine sy_ldar 1 agg_30 rfl rfl rfl rfl rfl ?_ | refine sy_ldar 2 agg_30 rfl rfl rfl rfl rfl ?_ | refine sy_ldar 3 agg_30 rfl rfl rfl rfl rfl ?_ | refine sy_ldar 4 agg_30 rfl rfl rfl rfl rfl ?_ | refine sy_ldar 5 agg_30 rfl rfl rfl rfl rfl ?_
       refine sy_nil rfl (ny_zy hB11_7 (Hp.Le.refl _) ?_)
       refine zy_1 6 (by kernel_rfl) ?_
       refine zop_run rfl rfl (fun hB11_6 => ?_)
       refine sy_call rfl call_15 rfl (num_c _ _) rfl rfl ?_
       refine sy_nil rfl (ny_zy hB11_6 (Hp.Le.refl _) ?_)
       refine zy_1 8 (by kernel_rfl) ?_
       refine zop_run rfl rfl (fun hB11_8 => ?_)
       refine sy_buildSlice (cs := [(GT.mk 2 ((dgN e35 : Nat) : Int) ⟨#[]⟩ none 0 []), g].flatMap GT.cells) rfl (fun w => bsl_23_2_0x1 w) rfl rfl (fun b41 hb41 hM41 => ?_) (by simp)
       refine sy_frz 0 rfl (by simp) (fun h41 hle41 hbx41 => ?_)
       have hr41 : RowsAt h41 (some ⟨b41, 0, none⟩) 4 ([(GT.mk 2 ((dgN e35 : Nat) : Int) ⟨#[]⟩ none 0 []), g].map GT.cells) := rows_blk (by decide) (GT.cells_len _) hbx41
       refine sy_nil rfl (ny_zy hB11_8 hle41 ?_)
       refine zy_1 9 (by kernel_rfl) ?_
       refine zop_run rfl rfl (fun hB11_9 => ?_)
       refine sy_callx call_16 rfl (make_c ⟨#[46]⟩ (some ⟨b41, 0, none⟩) 2 [(GT.mk 2 ((dgN e35 : Nat) : Int) ⟨#[]⟩ none 0 []), g] _ rfl hr41 (by simp)) rfl rfl (fun x42 h42 hx42 hle42 => ?_)
       obtain ⟨A42, c42⟩ := x42
       have hlf42 : Lies h42 (GT.mk 3 0 ⟨#[46]⟩ A42 c42 [(GT.mk 2 ((dgN e35 : Nat) : Int) ⟨#[]⟩ none 0 []), g]) ∧ Fits (GT.mk 3 0 ⟨#[46]⟩ A42 c42 [(GT.mk 2 ((dgN e35 : Nat) : Int) ⟨#[]⟩ none 0 []), g]) := ⟨.intro _ _ _ _ _ _ hx42.2 hx42.1 (fun t h9 => (duo (h := h42) ⟨lies_leaf _ _ _ _, fits_leaf (by decide) (by decide) (by have := dgN_lt e35; omega) (by have := dgN_lt e35; omega) (by decide)⟩ ⟨(hlg.1.le hle41).le hle42, hlg.2⟩ t h9).1), fits_kids (by decide) (by decide) (by decide) (by decide) (by decide) (by simp) (fun t h9 => (duo (h := h42) ⟨lies_leaf _ _ _ _, fits_leaf (by decide) (by decide) (by have := dgN_lt e35; omega) (by have := dgN_lt e35; omega) (by decide)⟩ ⟨(hlg.1.le hle41).le hle42, hlg.2⟩ t h9).2)⟩
       refine sy_nil rfl (ny_zy hB11_9 hle42 ?_)
       refine zy_1 10 (by kernel_rfl) ?_
       refine zop_run rfl rfl (fun hB11_10 => ?_)
       first | refine sy_stl 0 sz_30 rfl rfl rfl rfl rfl rfl rfl rfl ?_ | refine sy_stl 1 sz_30 rfl rfl rfl rfl rfl rfl rfl rfl ?_ | refine sy_stl 2 sz_30 rfl rfl rfl rfl rfl rfl rfl rfl ?_ | refine sy_stl 3 sz_30 rfl rfl rfl rfl rfl rfl rfl rfl ?_ | refine sy_stl 4 sz_30 rfl rfl rfl rfl rfl rfl rfl rfl ?_ | refine sy_stl 5 sz_30 rfl rfl rfl rfl rfl rfl rfl rfl ?_
       refine sy_nil rfl (ny_zy hB11_10 (Hp.Le.refl _) ?_)
       refine zy_done (by kernel_rfl) ?_
       refine ny_blockN ?_
       refine ny_next ?_
       refine cy_region ?_
       refine sy_move rfl rfl rfl ?_
       refine sy_subi (z := (k : Int) - 1 - 1) rfl rfl rfl (by omega) (by omega) rfl rfl ?_
       refine sy_assign rfl rfl rfl ?_
       refine sy_nil rfl ?_
       refine ny_roundK [0, 1, 5, 6, 7] ((k - 1, (GT.mk 3 0 ⟨#[46]⟩ A42 c42 [(GT.mk 2 ((dgN e35 : Nat) : Int) ⟨#[]⟩ none 0 []), g])), h42) [0] ⟨(show k - 1 ≤ es.length by omega), (by show _ = pairsR ((es.drop (k - 1)).map dgT) _; rw [pairs_stepU he35, show k - 1 + 1 = k by omega, ← hgt]; simp only [GT.tm_mk, List.map_cons, List.map_nil]; rfl), (hlez.trans hle41).trans hle42, hlf42⟩ (show k - 1 < k by omega) rfl ⟨congrArg (fun z => some (Value.int .i64 z)) (by show (k : Int) - 1 - 1 = ((k - 1 : Nat) : Int) - 1; omega), trivial⟩ rfl rfl
   · have hk0 : k = 0 := by have := of_decide_eq_false hc30; omega
     subst hk0
     rw [List.drop_zero] at hgt
     refine cy_exit ?_
     refine ny_thenE ?_
     refine ny_thenE ?_
     refine ny_blockX ?_
     refine ny_next ?_
     refine cy_seq ?_
     refine cy_seq ?_
     refine cy_region ?_
     refine sy_assign rfl rfl rfl ?_
     refine sy_nil rfl ?_
     refine ny_next ?_
     refine cy_block ?_
     refine cy_loopK (ι := Nat) [0, 1, 5, 7] rfl (fun j => j ≤ es.length) (fun j => es.length - j) (fun j => [(6, .string ⟨(91 :: elC ((es.take j).map dgN)).toArray⟩), (9, .int .i64 (j : Int))]) (fun j => hy) (fun j => [.blk b7 (.cells (GT.cells g).toArray 30 (0, 0))]) 0 [0] (Nat.zero_le _) ⟨rfl, rfl, trivial⟩ rfl rfl ?_
     rintro j hJ
     refine cy_seq ?_
     refine cy_seq ?_
     refine cy_region ?_
     refine sy_move rfl rfl rfl ?_
     refine sy_move rfl rfl rfl ?_
     refine sy_len rfl (len_slice Tryd.underlying36 _ _ _) rfl rfl ?_
     refine sy_cmp rfl rfl rfl rfl rfl ?_
     refine sy_nil rfl ?_
     refine ny_next ?_
     refine cy_cond rfl (fun hc46 => ?_) (fun hc46 => ?_)
     · have hltj : j < es.length := by have := of_decide_eq_true hc46; omega
       refine cy_skip ?_
       refine ny_next ?_
       refine cy_seq ?_
       refine cy_block ?_
       refine cy_seq ?_
       refine cy_seq ?_
       refine cy_region ?_
       refine sy_move rfl rfl rfl ?_
       refine sy_cmp rfl rfl rfl rfl rfl ?_
       refine sy_nil rfl ?_
       refine ny_next ?_
       refine cy_cond rfl (fun hc50 => ?_) (fun hc50 => ?_)
       · have hj0 : ¬ j = 0 := by have := of_decide_eq_true hc50; omega
         refine cy_region ?_
         refine sy_move rfl rfl rfl ?_
         refine sy_cat rfl rfl (by have h9 := elC_len ((es.take j).map dgN); rw [List.length_map, List.length_take] at h9; (try simp only [ByteArray.size_append]); simp only [bz, List.length_cons, List.length_nil]; omega) rfl rfl ?_
         refine sy_assign rfl rfl rfl ?_
         refine sy_nil rfl ?_
         refine ny_next ?_
         refine cy_region ?_
         refine sy_move rfl rfl rfl ?_
         refine sy_move rfl rfl rfl ?_
         refine sy_move rfl rfl rfl ?_
         refine sy_idxR (i := j) (fc := byC) (es := es) els_36 rfl rfl hRz rfl (by omega) rfl rfl (fun e56 b56 o56 he56 hA56 hc56 => ?_)
         refine sy_ldh one_5 rfl (hc56 0 _ rfl) rfl rfl ?_
         refine sy_rem8 (a := e56.toNat) (b := 10) rfl rfl (by decide) (by decide) (by have := e56.toNat_lt; omega) rfl rfl ?_
         refine sy_addK (z := ((48 + dgN e56 : Nat) : Int)) rfl rfl (by have := dgN_lt e56; rw [IntWalk.u8_in _ ⟨by omega, by omega⟩]; unfold dgN; omega) rfl rfl ?_
         refine sy_buildSlice rfl (fun w => bsl_36_1_0 w) rfl rfl (fun b60 hb60 hM60 => ?_) (by simp)
         refine sy_byte1 (u := digC (dgN e56)) 0 Tryd.underlying36 Tryd.underlying5 Tryd.underlying9 rfl rfl (dig_byte e56) rfl rfl ?_
         refine sy_cat rfl rfl (by have h9 := elC_len ((es.take j).map dgN); rw [List.length_map, List.length_take] at h9; (try simp only [ByteArray.size_append]); simp only [bz, List.length_cons, List.length_nil]; omega) rfl rfl ?_
         refine sy_assign rfl rfl rfl ?_
         refine sy_nil rfl ?_
         refine ny_blockN ?_
         refine ny_next ?_
         refine cy_region ?_
         refine sy_move rfl rfl rfl ?_
         refine sy_addi (z := ((j + 1 : Nat) : Int)) rfl rfl (by omega) (by omega) (by omega) rfl rfl ?_
         refine sy_assign rfl rfl rfl ?_
         refine sy_nil rfl ?_
         refine ny_roundK [0, 1, 5, 7] (j + 1) [1] (show j + 1 ≤ es.length by omega) (show es.length - (j + 1) < es.length - j by omega) rfl ⟨congrArg (fun z => some (Value.string z)) (ls_more he56 hj0), rfl, trivial⟩ rfl rfl
       · have hj0 : j = 0 := by have := of_decide_eq_false hc50; omega
         refine cy_skip ?_
         refine ny_next ?_
         refine cy_region ?_
         refine sy_move rfl rfl rfl ?_
         refine sy_move rfl rfl rfl ?_
         refine sy_move rfl rfl rfl ?_
         refine sy_idxR (i := j) (fc := byC) (es := es) els_36 rfl rfl hRz rfl (by omega) rfl rfl (fun e56 b56 o56 he56 hA56 hc56 => ?_)
         refine sy_ldh one_5 rfl (hc56 0 _ rfl) rfl rfl ?_
         refine sy_rem8 (a := e56.toNat) (b := 10) rfl rfl (by decide) (by decide) (by have := e56.toNat_lt; omega) rfl rfl ?_
         refine sy_addK (z := ((48 + dgN e56 : Nat) : Int)) rfl rfl (by have := dgN_lt e56; rw [IntWalk.u8_in _ ⟨by omega, by omega⟩]; unfold dgN; omega) rfl rfl ?_
         refine sy_buildSlice rfl (fun w => bsl_36_1_0 w) rfl rfl (fun b60 hb60 hM60 => ?_) (by simp)
         refine sy_byte1 (u := digC (dgN e56)) 0 Tryd.underlying36 Tryd.underlying5 Tryd.underlying9 rfl rfl (dig_byte e56) rfl rfl ?_
         refine sy_cat rfl rfl (by have h9 := elC_len ((es.take j).map dgN); rw [List.length_map, List.length_take] at h9; (try simp only [ByteArray.size_append]); simp only [bz, List.length_cons, List.length_nil]; omega) rfl rfl ?_
         refine sy_assign rfl rfl rfl ?_
         refine sy_nil rfl ?_
         refine ny_blockN ?_
         refine ny_next ?_
         refine cy_region ?_
         refine sy_move rfl rfl rfl ?_
         refine sy_addi (z := ((j + 1 : Nat) : Int)) rfl rfl (by omega) (by omega) (by omega) rfl rfl ?_
         refine sy_assign rfl rfl rfl ?_
         refine sy_nil rfl ?_
         refine ny_roundK [0, 1, 5, 7] (j + 1) [1] (show j + 1 ≤ es.length by omega) (show es.length - (j + 1) < es.length - j by omega) rfl ⟨congrArg (fun z => some (Value.string z)) (by rw [hj0]; exact ls_first (by rw [← hj0]; exact he56)), rfl, trivial⟩ rfl rfl
     · have hje : j = es.length := by have := of_decide_eq_false hc46; omega
       subst hje
       rw [List.take_length]
       refine cy_exit ?_
       refine ny_thenE ?_
       refine ny_thenE ?_
       refine ny_blockX ?_
       refine ny_next ?_
       refine cy_seq ?_
       refine cy_seq ?_
       refine cy_region ?_
       refine sy_move rfl rfl rfl ?_
       refine sy_setT (d := 63) rfl rfl rfl ?_
       refine sy_move rfl rfl rfl ?_
       refine sy_move rfl rfl rfl ?_
       refine sy_len rfl (len_slice Tryd.underlying36 _ _ _) rfl rfl ?_
       refine sy_cmp rfl rfl rfl rfl rfl ?_
       refine sy_setF (d := 67) rfl rfl (decide_eq_false (by omega)) ?_
       refine sy_pickT rfl rfl rfl rfl ?_
       refine sy_nil rfl ?_
       refine ny_next ?_
       refine cy_condF rfl ?_
       refine cy_skip ?_
       refine ny_next ?_
       refine cy_seq ?_
       refine cy_region ?_
       refine sy_move rfl rfl rfl ?_
       refine sy_cat rfl rfl (by have h9 := elC_len (es.map dgN); rw [List.length_map] at h9; (try simp only [ByteArray.size_append]); simp only [bz, List.length_cons, List.length_nil]; omega) rfl rfl ?_
       have hhz := hh.le hlez
       replace hh := hhz
       refine sy_callx call_10 rfl (allL_c _ (lsC (es.map dgN) false) (by first | (rw [ba_cat, ba_cat]; simp [lsC, tlC]; done) | (rw [ba_cat]; simp [lsC, tlC])) (1) _ hh) rfl rfl (fun x74 h74 hx74 hle74 => ?_)
       obtain ⟨es74, A74, c74⟩ := x74
       obtain ⟨hT74, hr74, hc74, hz74, hg74⟩ := hx74
       simp only at hT74 hr74 hc74 hz74 hg74 ⊢
       replace hh := hh.le hle74
       rw [ls_end hbn hl2] at hT74 ⊢
       obtain ⟨q, rfl, hq⟩ := map_one hT74
       refine sy_move rfl rfl rfl ?_
       refine sy_extract rfl rfl rfl rfl ?_
       refine sy_extract rfl rfl rfl rfl ?_
       refine sy_extract rfl rfl rfl rfl ?_
       refine sy_assign rfl rfl rfl ?_
       refine sy_assign rfl rfl rfl ?_
       refine sy_assign rfl rfl rfl ?_
       refine sy_nil rfl ?_
       refine ny_next ?_
       refine cy_seq ?_
       refine cy_frz 0 rfl (by simp) (fun h21 hle21 hbx21 => ?_)
       have hrq := hr74.le hle21
       have hgq : Lies h21 q ∧ Fits q := ⟨(hg74 q (by simp)).1.1.le hle21, (hg74 q (by simp)).1.2⟩
       replace hlg : Lies h21 g ∧ Fits g := ⟨(hlg.1.le hle74).le hle21, hlg.2⟩
       refine cy_regionQ mixed (by kernel_rfl) ?_
       refine sy_move rfl rfl rfl ?_
       refine sy_move rfl rfl rfl ?_
       refine sy_move rfl rfl rfl ?_
       refine sy_cmp rfl rfl rfl rfl rfl ?_
       refine sy_pickT rfl rfl rfl rfl ?_
       refine sy_move rfl rfl rfl ?_
       refine sy_setT (d := 83) rfl rfl (by first | rfl | (simp; done)) ?_
       refine sy_move rfl rfl rfl ?_
       refine sy_len rfl (len_slice Tryd.underlying23 _ _ _) rfl rfl ?_
       refine sy_cmp rfl rfl rfl rfl rfl ?_
       refine sy_pickT rfl rfl rfl rfl ?_
       refine sy_move rfl rfl rfl ?_
       refine sy_setT (d := 88) rfl rfl (by first | rfl | (simp; done)) ?_
       refine sy_move rfl rfl rfl ?_
       refine sy_idxR (i := 0) (fc := GT.cells) (es := [q]) els_23 rfl rfl hrq rfl (by simp) rfl rfl (fun e90 b90 o90 he90 hA90 hc90 => ?_)
       obtain rfl : q = e90 := Option.some.inj he90
       refine sy_ldah (vs := GT.cells q) agg_30 rfl rfl hc90 rfl rfl ?_
       refine sy_ldah (vs := GT.cells g) agg_30 rfl rfl (Hp.blk hbx21) rfl rfl ?_
       refine sy_call rfl call_17 rfl (same_c q g _ hgq.1 hgq.2 hlg.1 hlg.2) rfl rfl ?_
       rw [same_refl (a := q.tm) (b := g.tm) (by rw [hq, hgt])]
       refine sy_setT (d := 93) rfl rfl rfl ?_
       refine sy_pickT rfl rfl rfl rfl ?_
       refine sy_assign rfl rfl rfl ?_
       refine sy_nil rfl ?_
       refine ny_next ?_
       refine cy_ret ?_
       refine ny_finR (res1 rfl rfl) (fun w hs2 => ⟨rfl, hs2.frm⟩)
theorem lists07_c (es : List UInt8) (A : Option Addr) (c : Nat) (b : Bool) (h : Hp) (hR : RowsAt h A 1 (es.map byC)) (hh : Hdl h) : C0 Tryd.prog 6 [.slice A es.length c, .bool b] h (.bool true) := by
 cases b with
 | false => exact listsF_c es A c h hR hh
 | true =>
  by_cases h0 : es.length = 0
  · exact listsN_c es A c h hR hh h0
  · exact listsT_c es A c h hR hh (by omega)
end Go.Proofs.YtanhhihechakhaaDoor

/- The engine, the plain laws and the walks of this seat, part 3: what the functions answer. Conditions: as each says; printed by programs of this session. -/
import Derived.Shelf.Strings.Builder1
import Derived.Shelf.Strings.Builder2
import Derived.Shelf.Strings.OnBuilder
import Derived.Shelf.Small.Strs
import Derived.Shelf.Strconv.Itoa0
import Derived.Shelf.Strconv.Itoa1
import Derived.Shelf.LaysM
import Derived.Shelf.Strconv.Itoa2
import Derived.Shelf.Strconv.Itoa3
import Derived.Shelf.Strconv.Itoa4
import Derived.Shelf.Strings.Search1
import Derived.Shelf.Strings.Search2
import Derived.Shelf.Strings.Search3
import Derived.Shelf.Strings.Count
import Derived.Shelf.Strings.Shaped
import Derived.Shelf.Slices.Turned
import Derived.Test.YtanhhihechakhaaGreatDoorProg
import Derived.Lib.AppendIntMem
import Derived.Lib.ItoaNum
import Derived.Stop.Asserts
import Derived.Laws.Externs
import Derived.Lib.Join
import Derived.Maps.OwnSet
import Derived.Recover
import Derived.Test.YtanhhihechakhaaGreatDoorMb
namespace Go.Proofs
open Go.Shelf
open Go.RowKit in
open Go.RowKit in
open Go.RowKit in
open Go.RowKit in
open Go.RowKit in
def Tryz.lays156_ren : Go.Shelf.Ren := ⟨fun | 156 => 42 | 165 => 61 | 166 => 31 | 169 => 32 | 240 => 48 | 241 => 87 | 276 => 64 | 277 => 103 | n => n, fun | 31 => 37 | 9 => 9 | 3 => 3 | 4 => 4 | 0 => 0 | 20 => 20 | 72 => 53 | 76 => 74 | 70 => 51 | 37 => 40 | 75 => 60 | 127 => 75 | 164 => 97 | 5 => 5 | 80 => 56 | n => n, fun | n => n⟩
theorem Tryz.lays156 : Go.Proofs.Lays.n156 Tryz.prog Tryz.lays156_ren := {
 mixed := by kernel_rfl
 f156 := Tryz.func42.trans (congrArg some (by kernel_rfl))
 f165 := Tryz.func61.trans (congrArg some (by kernel_rfl))
 f166 := Tryz.func31.trans (congrArg some (by kernel_rfl))
 f169 := Tryz.func32.trans (congrArg some (by kernel_rfl))
 f240 := Tryz.func48.trans (congrArg some (by kernel_rfl))
 f241 := Tryz.func87.trans (congrArg some (by kernel_rfl))
 f276 := Tryz.func64.trans (congrArg some (by kernel_rfl))
 f277 := Tryz.func103.trans (congrArg some (by kernel_rfl))
 t0 := Tryz.underlying0
 a0 := Tryz.isAgg0
 z0 := Tryz.sizeOf0
 v0 := Tryz.zeroValue0
 t3 := Tryz.underlying3
 a3 := Tryz.isAgg3
 z3 := Tryz.sizeOf3
 v3 := Tryz.zeroValue3
 t4 := Tryz.underlying4
 a4 := Tryz.isAgg4
 z4 := Tryz.sizeOf4
 v4 := Tryz.zeroValue4
 t9 := Tryz.underlying9
 a9 := Tryz.isAgg9
 z9 := Tryz.sizeOf9
 v9 := Tryz.zeroValue9
 t20 := Tryz.underlying20
 a20 := Tryz.isAgg20
 z20 := Tryz.sizeOf20
 v20 := Tryz.zeroValue20
 t31 := Tryz.underlying37
 a31 := Tryz.isAgg37
 z31 := Tryz.sizeOf37
 v31 := Tryz.zeroValue37
 t37 := Tryz.underlying40
 a37 := Tryz.isAgg40
 z37 := Tryz.sizeOf40
 v37 := Tryz.zeroValue40
 t70 := Tryz.underlying51
 a70 := Tryz.isAgg51
 z70 := Tryz.sizeOf51
 v70 := Tryz.zeroValue51
 t72 := Tryz.underlying53
 a72 := Tryz.isAgg53
 z72 := Tryz.sizeOf53
 v72 := Tryz.zeroValue53
 t75 := Tryz.underlying60
 a75 := Tryz.isAgg60
 z75 := Tryz.sizeOf60
 v75 := Tryz.zeroValue60
 t76 := Tryz.underlying74
 a76 := Tryz.isAgg74
 z76 := Tryz.sizeOf74
 v76 := Tryz.zeroValue74
 t127 := Tryz.underlying75
 a127 := Tryz.isAgg75
 z127 := Tryz.sizeOf75
 v127 := Tryz.zeroValue75
 t164 := Tryz.underlying97
 a164 := Tryz.isAgg97
 z164 := Tryz.sizeOf97
 v164 := Tryz.zeroValue97 }
theorem Tryz.Builder_Extra_156 : Builder.Extra Tryz.prog Tryz.lays156_ren := {
 sizeBuilder := by kernel_rfl
 liesBuilder := by kernel_rfl
 t5 := Tryz.underlying5
 a5 := Tryz.isAgg5
 z5 := Tryz.sizeOf5
 v5 := Tryz.zeroValue5
 infoByte := by kernel_rfl
 cellsByte := by kernel_rfl
 sizeByte := by kernel_rfl
 neB5 := by decide }
open Go.RowKit in
theorem Tryz.strings_Join_none (a : Option Addr) (c : Nat) (sep : ByteArray) (w : World) :
    Calls Tryz.prog 42 #[.slice a 0 c, .string sep] w fun e w' => e = .returned (.string ⟨#[]⟩) ∧ w' = w := Any.strings_Join_none Tryz.lays156 Tryz.Builder_Extra_156 a c sep w
open Go.RowKit in
theorem Tryz.strings_Join (bk o c : Nat) (xs : List ByteArray) (sep : ByteArray) (w : World) (hcells : ∀ (j : Nat) x, xs[j]? = some x → w.cell? ⟨bk, o + j, none⟩ = some (.string x)) (hbk : bk < w.heap.size) (hN : xs.length ≤ 140737488355328) (hcap : xs.length ≤ c) (hlen : (Lib.join (xs.map (·.data.toList)) sep.data.toList).length ≤ 140737488355328) :
    Calls Tryz.prog 42 #[.slice (some ⟨bk, o, none⟩) xs.length c, .string sep] w fun e w' => e = .returned (.string ⟨(Lib.join (xs.map (·.data.toList)) sep.data.toList).toArray⟩) ∧ Below w.heap.size w w' := Any.strings_Join Tryz.lays156 Tryz.Builder_Extra_156 bk o c xs sep w hcells hbk hN hcap hlen
open Go.RowKit in
open Go.Lib in
open Go.Lib in
open Go.Lib in
open Go.Lib in
open Go.RowKit Go.Sort Go.Lib in
open Go.RowKit Go.Sort Go.Lib in
open Go.RowKit Go.Sort Go.Lib in
def Tryz.laysM173_ren : Go.Shelf.Ren := ⟨fun | 173 => 62 | 246 => 88 | 283 => 104 | 284 => 105 | 285 => 106 | 286 => 107 | 129 => 119 | 317 => 118 | 318 => 120 | 319 => 121 | 320 => 122 | 337 => 130 | 338 => 131 | n => n, fun | 2 => 2 | 3 => 3 | 9 => 9 | 4 => 4 | 171 => 145 | 0 => 0 | 53 => 121 | 37 => 40 | 5 => 5 | 173 => 148 | 212 => 177 | 51 => 153 | 20 => 20 | 213 => 178 | 46 => 180 | 232 => 209 | 233 => 210 | n => n, fun | 17 => 2 | 18 => 3 | 19 => 4 | n => n⟩
theorem Tryz.laysM173 : Go.Proofs.LaysM.n173 Tryz.prog Tryz.laysM173_ren := {
 mixed := by kernel_rfl
 f129 := Tryz.func119.trans (congrArg some (by kernel_rfl))
 f173 := Tryz.func62.trans (congrArg some (by kernel_rfl))
 f246 := Tryz.func88.trans (congrArg some (by kernel_rfl))
 f283 := Tryz.func104.trans (congrArg some (by kernel_rfl))
 f284 := Tryz.func105.trans (congrArg some (by kernel_rfl))
 f285 := Tryz.func106.trans (congrArg some (by kernel_rfl))
 f286 := Tryz.func107.trans (congrArg some (by kernel_rfl))
 f317 := Tryz.func118.trans (congrArg some (by kernel_rfl))
 f318 := Tryz.func120.trans (congrArg some (by kernel_rfl))
 f319 := Tryz.func121.trans (congrArg some (by kernel_rfl))
 f320 := Tryz.func122.trans (congrArg some (by kernel_rfl))
 f337 := Tryz.func130.trans (congrArg some (by kernel_rfl))
 f338 := Tryz.func131.trans (congrArg some (by kernel_rfl))
 t0 := Tryz.underlying0
 a0 := Tryz.isAgg0
 z0 := Tryz.sizeOf0
 v0 := Tryz.zeroValue0
 t2 := Tryz.underlying2
 a2 := Tryz.isAgg2
 z2 := Tryz.sizeOf2
 v2 := Tryz.zeroValue2
 t3 := Tryz.underlying3
 a3 := Tryz.isAgg3
 z3 := Tryz.sizeOf3
 v3 := Tryz.zeroValue3
 t4 := Tryz.underlying4
 a4 := Tryz.isAgg4
 z4 := Tryz.sizeOf4
 v4 := Tryz.zeroValue4
 t5 := Tryz.underlying5
 a5 := Tryz.isAgg5
 z5 := Tryz.sizeOf5
 v5 := Tryz.zeroValue5
 t9 := Tryz.underlying9
 a9 := Tryz.isAgg9
 z9 := Tryz.sizeOf9
 v9 := Tryz.zeroValue9
 t20 := Tryz.underlying20
 a20 := Tryz.isAgg20
 z20 := Tryz.sizeOf20
 v20 := Tryz.zeroValue20
 t37 := Tryz.underlying40
 a37 := Tryz.isAgg40
 z37 := Tryz.sizeOf40
 v37 := Tryz.zeroValue40
 t46 := Tryz.underlying180
 a46 := Tryz.isAgg180
 z46 := Tryz.sizeOf180
 v46 := Tryz.zeroValue180
 t51 := Tryz.underlying153
 a51 := Tryz.isAgg153
 z51 := Tryz.sizeOf153
 v51 := Tryz.zeroValue153
 t53 := Tryz.underlying121
 a53 := Tryz.isAgg121
 z53 := Tryz.sizeOf121
 v53 := Tryz.zeroValue121
 t171 := Tryz.underlying145
 a171 := Tryz.isAgg145
 z171 := Tryz.sizeOf145
 v171 := Tryz.zeroValue145
 t173 := Tryz.underlying148
 a173 := Tryz.isAgg148
 z173 := Tryz.sizeOf148
 v173 := Tryz.zeroValue148
 t212 := Tryz.underlying177
 a212 := Tryz.isAgg177
 z212 := Tryz.sizeOf177
 v212 := Tryz.zeroValue177
 t213 := Tryz.underlying178
 a213 := Tryz.isAgg178
 z213 := Tryz.sizeOf178
 t232 := Tryz.underlying209
 a232 := Tryz.isAgg209
 z232 := Tryz.sizeOf209
 v232 := Tryz.zeroValue209
 t233 := Tryz.underlying210
 a233 := Tryz.isAgg210
 z233 := Tryz.sizeOf210
 v233 := Tryz.zeroValue210
 g17 := by kernel_rfl
 g18 := by kernel_rfl
 g19 := by kernel_rfl
 i0 := by kernel_rfl
 i2 := by kernel_rfl
 i3 := by kernel_rfl
 i4 := by kernel_rfl
 i5 := by kernel_rfl
 i9 := by kernel_rfl
 i20 := by kernel_rfl
 i37 := by kernel_rfl
 i46 := by kernel_rfl
 i51 := by kernel_rfl
 i53 := by kernel_rfl
 i171 := by kernel_rfl
 i173 := by kernel_rfl
 i212 := by kernel_rfl
 i232 := by kernel_rfl
 i233 := by kernel_rfl
 m17 := by kernel_rfl
 m18 := by kernel_rfl
 m19 := by kernel_rfl }
open Go.RowKit Go.Sort Go.Lib in
theorem Tryz.strconv_FormatInt_10 (n : Int) (h0 : -9223372036854775808 ≤ n) (h1 : n ≤ 9223372036854775807) (w : World) (htab : Lib.TabIs Tryz.prog w "internal/strconv.uint64pow10" .u64 Lib.pow10Tab) :
    Calls Tryz.prog 62 #[.int .i64 n, .int .i64 10] w fun e w' => e = .returned (.string ⟨(Lib.itoa n).toArray⟩) ∧ ∃ k os, w' = grow (w.drewN k) os := Any.strconv_FormatInt_10 Tryz.laysM173 n h0 h1 w htab
open Go.RowKit Go.Sort Go.Lib in
open Go.RowKit Go.Lib in
open Go.RowKit Go.Lib in
open Go.RowKit Go.Lib in
open Go.RowKit Go.Lib in
open Go.RowKit Go.Lib in
open Go.RowKit Go.Lib in
open Go.RowKit Go.Lib in
open Go.RowKit Go.Lib in
open Go.RowKit Go.Lib in
open Go.RowKit Go.Lib in
open Go.RowKit Go.Lib in
open Go.RowKit Go.Lib in
open Go.RowKit Go.Lib in
open Go.Lib in
open Go.Lib in
def Tryz.lays107_ren : Go.Shelf.Ren := ⟨fun | 107 => 38 | 108 => 58 | n => n, fun | 28 => 35 | 3 => 3 | 4 => 4 | 0 => 0 | n => n, fun | n => n⟩
theorem Tryz.lays107 : Go.Proofs.Lays.n107 Tryz.prog Tryz.lays107_ren := {
 mixed := by kernel_rfl
 f107 := Tryz.func38.trans (congrArg some (by kernel_rfl))
 f108 := Tryz.func58.trans (congrArg some (by kernel_rfl))
 t0 := Tryz.underlying0
 a0 := Tryz.isAgg0
 z0 := Tryz.sizeOf0
 v0 := Tryz.zeroValue0
 t3 := Tryz.underlying3
 a3 := Tryz.isAgg3
 z3 := Tryz.sizeOf3
 v3 := Tryz.zeroValue3
 t4 := Tryz.underlying4
 a4 := Tryz.isAgg4
 z4 := Tryz.sizeOf4
 v4 := Tryz.zeroValue4
 t28 := Tryz.underlying35
 a28 := Tryz.isAgg35
 z28 := Tryz.sizeOf35
 v28 := Tryz.zeroValue35 }
open Go.Lib in
theorem Tryz.slices_Contains_int (b off n c : Nat) (zs : List Int) (x : Int) (w : World) (hz : n ≤ zs.length) (hbig : n ≤ 9223372036854775807) (hc : ∀ j, j < zs.length → w.cell? ⟨b, off + j, none⟩ = some (.int .i64 (zs.getD j 0))) :
    Calls Tryz.prog 38 #[.slice (some ⟨b, off, none⟩) n c, .int .i64 x] w fun e w' => e = .returned (.bool ((zs.take n).contains x)) ∧ w' = w := Any.slices_Contains_int Tryz.lays107 b off n c zs x w hz hbig hc
open Go.Lib in
theorem Tryz.slices_Contains_int_empty (a : Option Addr) (c : Nat) (x : Int) (w : World) :
    Calls Tryz.prog 38 #[.slice a 0 c, .int .i64 x] w fun e w' => e = .returned (.bool false) ∧ w' = w := Any.slices_Contains_int_empty Tryz.lays107 a c x w
end Go.Proofs
set_option linter.unusedVariables false
namespace Go.Proofs.YtanhhihechakhaaGreatDoor
open Go.RowKit Go.Proofs.YtanhhihechakhaaGreatDoor.E
def Tab10 (h : Hp) : Prop := ∀ w, h.Sub w → Lib.TabIs Tryz.prog w "internal/strconv.uint64pow10" .u64 Lib.pow10Tab
theorem Tab10.le {h h' : Hp} (ht : Tab10 h) (hl : h.Le h') : Tab10 h' := fun w hw => ht w fun k o hk => hw k o (hl k o hk)
theorem tab10_hp {W : World} (ht : Lib.TabIs Tryz.prog W "internal/strconv.uint64pow10" .u64 Lib.pow10Tab) : Tab10 (hpOf W) := fun w hw => by
 unfold Lib.TabIs World.var? at ht ⊢
 cases hg : Tryz.prog.globalNamed "internal/strconv.uint64pow10" with
 | none => rw [hg] at ht; cases ht
 | some g =>
  rw [hg] at ht
  simp only [Option.bind_some] at ht ⊢
  split at ht
  · rename_i cs e fr hb
    rw [hw g _ hb]
    exact ht
  · cases ht
theorem fmt_c (n : Int) (h : Hp) (h0 : -9223372036854775808 ≤ n) (h1 : n ≤ 9223372036854775807) (ht : Tab10 h) : C0 Tryz.prog 62 [.int .i64 n, .int .i64 10] h (.string ⟨(Lib.itoa n).toArray⟩) := fun w hw => by
 refine (Tryz.strconv_FormatInt_10 n h0 h1 w (ht w hw)).mono fun e w' ⟨he, k, os, hg⟩ => ⟨he, Frm.of_below ?_⟩
 rw [hg]
 exact Lib.below_grow _ w (Nat.le_refl _) k os
theorem join_c (A : Option Addr) (c : Nat) (xs : List ByteArray) (sep : ByteArray) (h : Hp) (hr : RowsAt h A 1 (xs.map fun s => [Value.string s])) (hcap : xs.length ≤ c) (hN : xs.length ≤ 140737488355328) (hlen : (Lib.join (xs.map (·.data.toList)) sep.data.toList).length ≤ 140737488355328) :
    C0 Tryz.prog 42 [.slice A xs.length c, .string sep] h (.string ⟨(Lib.join (xs.map (·.data.toList)) sep.data.toList).toArray⟩) := fun w hw => by
 cases xs with
 | nil =>
  refine (Tryz.strings_Join_none A c sep w).mono fun e w' ⟨he, hg⟩ => ⟨he, ?_⟩
  subst hg
  exact Frm.refl _ _
 | cons x r =>
  obtain ⟨b, off, rfl⟩ : ∃ b off, A = some ⟨b, off, none⟩ := by
   obtain ⟨b, off, hb, _⟩ := hr 0 _ rfl
   exact ⟨b, off, hb⟩
  have hc : ∀ (j : Nat) y, (x :: r)[j]? = some y → w.cell? ⟨b, off + j, none⟩ = some (.string y) := fun j y hj => by
   have h1 := hr.get (j := j) (c := [Value.string y]) (by rw [List.getElem?_map, hj]; rfl)
   have h2 := h1 0 _ rfl
   simp only [Nat.mul_one, Nat.add_zero] at h2
   exact hw.cell h2
  have hb : b < w.heap.size := by
   have h1 := hc 0 x rfl
   unfold World.cell? at h1
   split at h1
   · rename_i cs e fr hh
     exact (Array.getElem?_eq_some_iff.1 hh).1
   · cases h1
  exact (Tryz.strings_Join b off c (x :: r) sep w hc hb hN hcap hlen).mono fun e w' ⟨he, hg⟩ => ⟨he, Frm.of_below hg⟩
theorem contains_c (A : Option Addr) (c : Nat) (zs : List Int) (x : Int) (h : Hp) (hr : RowsAt h A 1 (zs.map fun z => [Value.int .i64 z])) (hN : zs.length ≤ 9223372036854775807) :
    C0 Tryz.prog 38 [.slice A zs.length c, .int .i64 x] h (.bool (zs.contains x)) := fun w hw => by
 cases zs with
 | nil =>
  refine (Tryz.slices_Contains_int_empty A c x w).mono fun e w' ⟨he, hg⟩ => ⟨he, ?_⟩
  subst hg
  exact Frm.refl _ _
 | cons z r =>
  obtain ⟨b, off, rfl⟩ : ∃ b off, A = some ⟨b, off, none⟩ := by
   obtain ⟨b, off, hb, _⟩ := hr 0 _ rfl
   exact ⟨b, off, hb⟩
  have hc : ∀ j, j < (z :: r).length → w.cell? ⟨b, off + j, none⟩ = some (.int .i64 ((z :: r).getD j 0)) := fun j hj => by
   have hj2 : (z :: r)[j]? = some ((z :: r)[j]'hj) := List.getElem?_eq_getElem hj
   have h1 := hr.get (j := j) (c := [Value.int .i64 ((z :: r)[j]'hj)]) (by rw [List.getElem?_map, hj2]; rfl)
   have h2 := h1 0 _ rfl
   simp only [Nat.mul_one, Nat.add_zero] at h2
   rw [List.getD_eq_getElem?_getD, hj2]
   exact hw.cell h2
  refine (Tryz.slices_Contains_int b off (z :: r).length c (z :: r) x w (Nat.le_refl _) hN hc).mono fun e w' ⟨he, hg⟩ => ⟨?_, ?_⟩
  · rw [he, List.take_length]
  · subst hg
    exact Frm.refl _ _
end Go.Proofs.YtanhhihechakhaaGreatDoor
set_option linter.unusedVariables false
set_option linter.unusedSimpArgs false
namespace Go.Proofs.YtanhhihechakhaaGreatDoor.TokP
open Go.RowKit Go.Proofs.YtanhhihechakhaaGreatDoor.E Go.Proofs.YtanhhihechakhaaGreatDoor.ReplP
def one1 (r : List UInt8) : Ans := oneC (firstC r) r
inductive Lx : Bool → List UInt8 → List Tk → Prop
 | done {b : Bool} {l : List UInt8} (h : skipN l = l.length) : Lx b l []
 | tok {b : Bool} {l r : List UInt8} {a : Ans} {ts : List Tk} (h : ¬ skipN l = l.length) (hr : r = l.drop (skipN l)) (ha : a = one1 r) (he : errA a = none) (k : Lx true (r.drop a.used) ts) : Lx b l (⟨a, decide (skipN l = 0) && b⟩ :: ts)
inductive Lb : List UInt8 → Nat → ByteArray × Int → Prop
 | bad {l r : List UInt8} {x : ByteArray × Int} (h : ¬ skipN l = l.length) (hr : r = l.drop (skipN l)) (he : errA (one1 r) = some x) : Lb l (skipN l) x
 | tok {l r : List UInt8} {a : Ans} {i : Nat} {x : ByteArray × Int} (h : ¬ skipN l = l.length) (hr : r = l.drop (skipN l)) (ha : a = one1 r) (he : errA a = none) (k : Lb (r.drop a.used) i x) : Lb l (skipN l + a.used + i) x
theorem skip_lt {l : List UInt8} (h : ¬ skipN l = l.length) : skipN l < l.length := by
 have := skip_le l.length l (Nat.le_refl _)
 omega
theorem one1_used {r : List UInt8} (hr : 1 ≤ r.length) (he : errA (one1 r) = none) : 1 ≤ (one1 r).used ∧ (one1 r).used ≤ r.length := by
 cases r with
 | nil => simp at hr
 | cons c t => exact one_used (err_none he)
theorem lx_scan {l : List UInt8} : ∀ (k i : Nat) (acc : List Tk), i ≤ l.length → l.length + 1 ≤ i + k →
    (∃ ts, Lx (decide (0 < acc.length)) (l.drop i) ts ∧ scanF l k i acc = .ok (acc ++ ts)) ∨ (∃ j x, Lb (l.drop i) j x ∧ scanF l k i acc = .bad (i + j) x.1 x.2)
 | 0, i, acc, hi, hk => by omega
 | k + 1, i, acc, hi, hk => by
  by_cases h : i + skipN (l.drop i) = l.length
  · exact .inl ⟨[], .done (by rw [List.length_drop]; omega), by rw [scan_done h, List.append_nil]⟩
  · have hne : ¬ skipN (l.drop i) = (l.drop i).length := by rw [List.length_drop]; omega
    have hdd : l.drop (i + skipN (l.drop i)) = (l.drop i).drop (skipN (l.drop i)) := by rw [List.drop_drop]
    cases he : errA (oneC (firstC (l.drop (i + skipN (l.drop i)))) (l.drop (i + skipN (l.drop i)))) with
    | some x =>
     refine .inr ⟨_, x, .bad hne rfl (by rw [← hdd]; exact he), ?_⟩
     rw [scan_bad h he]
    | none =>
     have hu := scan_used hi h he
     have e1 : one1 ((l.drop i).drop (skipN (l.drop i))) = oneC (firstC (l.drop (i + skipN (l.drop i)))) (l.drop (i + skipN (l.drop i))) := by rw [← hdd]; rfl
     have hd2 : ∀ u : Nat, l.drop (i + skipN (l.drop i) + u) = ((l.drop i).drop (skipN (l.drop i))).drop u := fun u => by rw [List.drop_drop, List.drop_drop]; congr 1; omega
     rcases lx_scan k _ (acc ++ [⟨oneC (firstC (l.drop (i + skipN (l.drop i)))) (l.drop (i + skipN (l.drop i))), decide (skipN (l.drop i) = 0) && decide (0 < acc.length)⟩]) hu.2 (by omega) with ⟨ts, h1, h2⟩ | ⟨j, x, h1, h2⟩
     · refine .inl ⟨_ :: ts, .tok hne rfl e1.symm he ?_, ?_⟩
       · rw [hd2] at h1
         have hb : decide (0 < (acc ++ [(⟨oneC (firstC (l.drop (i + skipN (l.drop i)))) (l.drop (i + skipN (l.drop i))), decide (skipN (l.drop i) = 0) && decide (0 < acc.length)⟩ : Tk)]).length) = true := by simp
         rw [hb] at h1
         exact h1
       · rw [scan_more h he, h2, List.append_assoc]
         rfl
     · refine .inr ⟨_, x, .tok hne rfl e1.symm he (by rw [hd2] at h1; exact h1), ?_⟩
       rw [scan_more h he, h2]
       congr 1
       omega
theorem lx_det {b : Bool} {l : List UInt8} {ts : List Tk} (h : Lx b l ts) : ∀ {ts' : List Tk}, Lx b l ts' → ts = ts' := by
 induction h with
 | done h =>
  intro ts' h'
  cases h' with
  | done => rfl
  | tok h2 => exact absurd h h2
 | tok h hr ha he k ih =>
  intro ts' h'
  cases h' with
  | done h2 => exact absurd h2 h
  | tok h2 hr2 ha2 he2 k2 =>
   subst hr hr2 ha ha2
   rw [ih k2]
theorem lx_lb {b : Bool} {l : List UInt8} {ts : List Tk} (h : Lx b l ts) : ∀ {j : Nat} {x : ByteArray × Int}, ¬ Lb l j x := by
 induction h with
 | done h =>
  intro j x h'
  cases h' with
  | bad h2 => exact h2 h
  | tok h2 => exact h2 h
 | tok h hr ha he k ih =>
  intro j x h'
  cases h' with
  | bad h2 hr2 he2 =>
   subst hr hr2 ha
   rw [he] at he2
   cases he2
  | tok h2 hr2 ha2 he2 k2 =>
   subst hr hr2 ha ha2
   exact ih k2
theorem scan_or {l : List UInt8} (hl : l.length ≤ 4096) : (∃ ts, Lx false l ts ∧ scanA l = .ok ts) ∨ (∃ j x, Lb l j x ∧ scanA l = .bad j x.1 x.2) := by
 have h := lx_scan (l := l) (l.length + 1) 0 [] (Nat.zero_le _) (by omega)
 unfold scanA
 rw [if_neg (by omega)]
 rcases h with ⟨ts, h1, h2⟩ | ⟨j, x, h1, h2⟩
 · exact .inl ⟨ts, h1, h2⟩
 · exact .inr ⟨j, x, h1, by rw [h2, Nat.zero_add]⟩
theorem scan_ok {l : List UInt8} (hl : l.length ≤ 4096) {ts : List Tk} (h : Lx false l ts) : scanA l = .ok ts := by
 rcases scan_or hl with ⟨ts', h1, h2⟩ | ⟨j, x, h1, _⟩
 · rw [h2, lx_det h h1]
 · exact absurd h1 (lx_lb h)
/-! blanks ahead -/
def padB (p : List UInt8) : Prop := ∀ x, skipN (p ++ x) = p.length + skipN x
section
variable {p : List UInt8} (hp : padB p)
include hp
theorem pad_drop (x : List UInt8) : (p ++ x).drop (skipN (p ++ x)) = x.drop (skipN x) := by
 rw [hp, List.drop_append, List.drop_eq_nil_of_le (by omega), List.nil_append]
 congr 1
 omega
theorem pad_ne {x : List UInt8} (h : ¬ skipN x = x.length) : ¬ skipN (p ++ x) = (p ++ x).length := by
 rw [hp, List.length_append]
 omega
end
/-! what tokens are -/
structure Fair (t : Tk) : Prop where
 kind : 1 ≤ t.a.kind ∧ t.a.kind ≤ 5
 num : ¬ t.a.kind = 3 → t.a.num = 0
 str : t.a.kind = 3 → t.a.str = ⟨#[]⟩
 quo : t.a.quo = true → t.a.kind = 1
 size : t.a.str.size ≤ 64
 used : t.a.quo = false → t.a.str.size ≤ t.a.used
theorem err_size {a : Ans} (h : errA a = none) : a.str.size ≤ 64 := by
 unfold errA at h
 split at h
 · cases h
 · rename_i h2
   have h3 : ¬ 64 < a.str.size := fun h4 => h2 ⟨h, h4⟩
   omega
theorem first_fair {k : Int} {l : List UInt8} {n : Nat} (hk : 1 ≤ k ∧ k ≤ 5) (h3 : ¬ k = 3) (tg : Bool) (he : errA (firstT k l n) = none) : Fair ⟨firstT k l n, tg⟩ where
 kind := hk
 num := fun _ => rfl
 str := fun h => absurd h h3
 quo := fun h => by cases h
 size := err_size he
 used := fun _ => by
  show (l.take n).length ≤ n
  rw [List.length_take]
  omega
theorem quo_fair : ∀ (m : Nat) (r out : List UInt8) (k : Nat), r.length ≤ m → (quoL r out k).err = none → (quoL r out k).kind = 1 ∧ (quoL r out k).num = 0 ∧ (quoL r out k).quo = true
 | _, [], _, _, _, h => by rw [quoL] at h; cases h
 | 0, _ :: _, _, _, h, _ => by simp at h
 | m + 1, [c], out, k, _, h => by
  rw [quoL] at h ⊢
  split at h
  · rename_i h1; rw [if_pos h1]; exact ⟨rfl, rfl, rfl⟩
  · split at h
    · cases h
    · split at h <;> cases h
 | m + 1, c :: d :: t, out, k, hl, h => by
  have hl2 : t.length + 1 ≤ m := by simpa using hl
  rw [quoL] at h ⊢
  by_cases h39 : c = 39
  · rw [if_pos h39] at h ⊢
    by_cases hd : d = 39
    · rw [if_pos hd] at h ⊢
      exact quo_fair m t _ _ (by omega) h
    · rw [if_neg hd]
      exact ⟨rfl, rfl, rfl⟩
  · rw [if_neg h39] at h ⊢
    by_cases h92 : c = 92
    · rw [if_pos h92] at h ⊢
      cases hx : esc d with
      | none => rw [hx] at h; cases h
      | some x =>
       rw [hx] at h
       exact quo_fair m t _ _ (by omega) h
    · rw [if_neg h92] at h ⊢
      by_cases hlow : (c.toNat : Int) < 32
      · rw [if_pos hlow] at h; cases h
      · rw [if_neg hlow] at h ⊢
        exact quo_fair m (d :: t) _ _ (by simpa using hl2) h
theorem one_fair (r : List UInt8) (tg : Bool) (he : errA (one1 r) = none) : Fair ⟨one1 r, tg⟩ := by
 revert he
 show errA (oneC (firstC r) r) = none → Fair ⟨oneC (firstC r) r, tg⟩
 unfold oneC
 split
 · exact first_fair (by decide) (by decide) tg
 split
 · exact first_fair (by decide) (by decide) tg
 split
 · intro he
   have h1 := err_none he
   unfold numA at h1 ⊢
   split at h1
   · cases h1
   rename_i hd
   rw [if_neg hd]
   split at h1
   · cases h1
   rename_i hb
   rw [if_neg hb]
   exact ⟨(by show (1 : Int) ≤ 3 ∧ (3 : Int) ≤ 5; decide), fun h => absurd rfl h, fun _ => rfl, (fun h => by cases h), (by show 0 ≤ 64; omega), fun _ => Nat.zero_le _⟩
 split
 · intro he
   have h1 := quo_fair (r.drop 1).length (r.drop 1) [] 1 (Nat.le_refl _) (err_none he)
   refine ⟨?_, fun _ => h1.2.1, fun h => ?_, fun _ => h1.1, err_size he, fun h => ?_⟩
   · show 1 ≤ (quoL (r.drop 1) [] 1).kind ∧ (quoL (r.drop 1) [] 1).kind ≤ 5
     rw [h1.1]; decide
   · have h : (quoL (r.drop 1) [] 1).kind = 3 := h
     rw [h1.1] at h
     cases h
   · have h : (quoL (r.drop 1) [] 1).quo = false := h
     rw [h1.2.2] at h
     cases h
 split
 · exact first_fair (by decide) (by decide) tg
 split
 · exact first_fair (by decide) (by decide) tg
 split
 · exact first_fair (by decide) (by decide) tg
 split
 · exact first_fair (by decide) (by decide) tg
 · intro h; cases h
def sumT (ts : List Tk) : Nat := (ts.map fun t => if t.a.quo = true then 0 else t.a.str.size).sum
theorem lx_fair {b : Bool} {l : List UInt8} {ts : List Tk} (h : Lx b l ts) : (∀ t ∈ ts, Fair t) ∧ sumT ts ≤ l.length ∧ ts.length ≤ l.length ∧ (b = false → ∀ t, ts[0]? = some t → t.tight = false) := by
 induction h with
 | done h => exact ⟨fun t ht => by simp at ht, Nat.zero_le _, Nat.zero_le _, fun _ t ht => by simp at ht⟩
 | @tok b l r a ts h hr ha he k ih =>
  subst hr
  have hlt := skip_lt h
  have hl : (l.drop (skipN l)).length = l.length - skipN l := List.length_drop
  have hf := one_fair (l.drop (skipN l)) (decide (skipN l = 0) && b) (by rw [← ha]; exact he)
  have hu := one1_used (r := l.drop (skipN l)) (by omega) (by rw [← ha]; exact he)
  rw [← ha] at hf hu
  obtain ⟨i1, i2, i3, _⟩ := ih
  have hl2 : ((l.drop (skipN l)).drop a.used).length = l.length - skipN l - a.used := by rw [List.length_drop, hl]
  refine ⟨fun t ht => ?_, ?_, ?_, fun hb t ht => ?_⟩
  · rcases List.mem_cons.1 ht with rfl | ht
    · exact hf
    · exact i1 t ht
  · unfold sumT at i2 ⊢
    rw [List.map_cons, List.sum_cons]
    have : (if a.quo = true then 0 else a.str.size) ≤ a.used := by
     split
     · omega
     · rename_i hq
       exact hf.used (by simpa using hq)
    show (if a.quo = true then 0 else a.str.size) + _ ≤ _
    omega
  · rw [List.length_cons]; omega
  · simp only [List.getElem?_cons_zero, Option.some.injEq] at ht
    subst ht
    show (decide (skipN l = 0) && b) = false
    rw [hb, Bool.and_false]
end Go.Proofs.YtanhhihechakhaaGreatDoor.TokP
set_option linter.unusedVariables false
set_option linter.unusedSimpArgs false
namespace Go.Proofs.YtanhhihechakhaaGreatDoor.TokP
open Go.RowKit Go.Proofs.YtanhhihechakhaaGreatDoor.E Go.Proofs.YtanhhihechakhaaGreatDoor.ReplP
def okB (c : UInt8) : Bool := decide (¬ (c.toNat : Int) < 32) || (c == 10)
def quoteL (l : List UInt8) (p : Bool) : List UInt8 := if p = true then l else [39] ++ repl l ++ [39]
theorem run_stop {p : UInt8 → Bool} {x : UInt8} (h : p x = false) : ∀ (u t : List UInt8), u.all p = true → runB p (u ++ x :: t) = u.length
 | [], t, _ => by rw [List.nil_append, runB_no h]; rfl
 | c :: u, t, hu => by
  rw [List.all_cons, Bool.and_eq_true] at hu
  rw [List.cons_append, runB_yes hu.1, run_stop h u t hu.2]
  rfl
theorem skip_zero {c : UInt8} {t : List UInt8} (h1 : ¬ c = 37) (h2 : blankB c = false) : skipN (c :: t) = 0 := by rw [skip_cons, if_neg h1, h2]; rfl
theorem sign_kind : ∀ c : UInt8, signB c = true → smallB c = false ∧ bigB c = false ∧ digitB c = false ∧ ((c.toNat : Int) == 39) = false ∧ punctL.contains c = false ∧ (((c.toNat : Int) == 33) || ((c.toNat : Int) == 59)) = false ∧ blankB c = false ∧ ((c.toNat : Int) == 37) = false := by
 have h : ∀ c ∈ signL, smallB c = false ∧ bigB c = false ∧ digitB c = false ∧ ((c.toNat : Int) == 39) = false ∧ punctL.contains c = false ∧ (((c.toNat : Int) == 33) || ((c.toNat : Int) == 59)) = false ∧ blankB c = false ∧ ((c.toNat : Int) == 37) = false := by decide
 intro c hc
 unfold signB at hc
 rw [List.contains_eq_mem, decide_eq_true_iff] at hc
 exact h c hc
theorem small_kind {c : UInt8} (h : smallB c = true) : ¬ c = 37 ∧ blankB c = false := by
 unfold smallB at h
 rw [Bool.and_eq_true, decide_eq_true_iff, decide_eq_true_iff] at h
 have ne : ∀ k : Int, k < 97 → ((c.toNat : Int) == k) = false := fun k hk => by rw [beq_eq_false_iff_ne]; omega
 refine ⟨fun h9 => ?_, ?_⟩
 · rw [h9] at h
   exact absurd h.1 (by decide)
 · unfold blankB
   rw [ne 9 (by omega), ne 10 (by omega), ne 13 (by omega), ne 32 (by omega)]
   rfl
theorem digit_kind {c : UInt8} (h : digitB c = true) : ¬ c = 37 ∧ blankB c = false ∧ smallB c = false ∧ bigB c = false := by
 unfold digitB at h
 rw [Bool.and_eq_true, decide_eq_true_iff, decide_eq_true_iff] at h
 have ne : ∀ k : Int, k < 48 → ((c.toNat : Int) == k) = false := fun k hk => by rw [beq_eq_false_iff_ne]; omega
 refine ⟨fun h9 => ?_, ?_, ?_, ?_⟩
 · rw [h9] at h
   exact absurd h.1 (by decide)
 · unfold blankB
   rw [ne 9 (by omega), ne 10 (by omega), ne 13 (by omega), ne 32 (by omega)]
   rfl
 · unfold smallB
   rw [decide_eq_false (by omega)]
   rfl
 · unfold bigB
   rw [decide_eq_false (by omega), Bool.false_and, Bool.false_or, beq_eq_false_iff_ne]
   omega
/-! numbers -/
def figL (n : Nat) : List UInt8 := if n < 10 then [UInt8.ofNat (48 + n)] else figL (n / 10) ++ [UInt8.ofNat (48 + n % 10)]
termination_by n
decreasing_by omega
theorem fig_lt {n : Nat} (h : n < 10) : figL n = [UInt8.ofNat (48 + n)] := by rw [figL, if_pos h]
theorem fig_ge {n : Nat} (h : ¬ n < 10) : figL n = figL (n / 10) ++ [UInt8.ofNat (48 + n % 10)] := by rw [figL, if_neg h]
theorem fig_byte {n : Nat} (h : n < 10) : (UInt8.ofNat (48 + n)).toNat = 48 + n := by
 rw [UInt8.toNat_ofNat']
 omega
theorem fig_digit {n : Nat} (h : n < 10) : digitB (UInt8.ofNat (48 + n)) = true := by
 unfold digitB
 rw [fig_byte h, decide_eq_true (by omega), decide_eq_true (by omega)]
 rfl
theorem fig_all : ∀ (k n : Nat), n ≤ k → (figL n).all digitB = true ∧ valN (figL n) = n ∧ 1 ≤ (figL n).length
 | k, n, h => by
  by_cases hn : n < 10
  · rw [fig_lt hn]
    refine ⟨by rw [List.all_cons, fig_digit hn]; rfl, ?_, Nat.le_refl _⟩
    have := valN_snoc [] (UInt8.ofNat (48 + n))
    rw [List.nil_append, fig_byte hn] at this
    rw [this]
    show 10 * 0 + _ = n
    omega
  · match k, h with
    | 0, h => omega
    | k + 1, h =>
     have ih := fig_all k (n / 10) (by omega)
     rw [fig_ge hn]
     refine ⟨by rw [List.all_append, ih.1, List.all_cons, fig_digit (by omega)]; rfl, ?_, by rw [List.length_append]; simp⟩
     rw [valN_snoc, ih.2.1, fig_byte (by omega)]
     omega
theorem fig_len : ∀ (k n : Nat), n < 10 ^ (k + 1) → (figL n).length ≤ k + 1
 | k, n, h => by
  by_cases hn : n < 10
  · rw [fig_lt hn]; simp
  · match k, h with
    | 0, h => omega
    | k + 1, h =>
     rw [fig_ge hn, List.length_append]
     have := fig_len k (n / 10) (by rw [Nat.pow_succ] at h; omega)
     simp only [List.length_cons, List.length_nil]
     omega
theorem fig_cons (n : Nat) : ∃ c t, figL n = c :: t ∧ digitB c = true := by
 have h := fig_all n n (Nat.le_refl _)
 cases hf : figL n with
 | nil => rw [hf] at h; exact absurd h.2.2 (by decide)
 | cons c t =>
  rw [hf] at h
  rw [List.all_cons, Bool.and_eq_true] at h
  exact ⟨c, t, rfl, h.1.1⟩
theorem one_digit {c : UInt8} {t : List UInt8} (h : digitB c = true) : one1 (c :: t) = numA (c :: t) := by
 have hk := digit_kind h
 show oneC c (c :: t) = _
 unfold oneC
 rw [hk.2.2.1, hk.2.2.2, h]
 rfl
end Go.Proofs.YtanhhihechakhaaGreatDoor.TokP
set_option linter.unusedVariables false
set_option linter.unusedSimpArgs false
namespace Go.Proofs.YtanhhihechakhaaGreatDoor.TokP
open Go.RowKit Go.Proofs.YtanhhihechakhaaGreatDoor.E Go.Proofs.YtanhhihechakhaaGreatDoor.ReplP
def scTs : Sc → List Tk
 | .ok ts => ts
 | .bad _ _ _ => []
def scE : Sc → Option (ByteArray × Int)
 | .ok _ => none
 | .bad _ w e => some (w, e)
def scAt : Sc → Nat
 | .ok _ => 0
 | .bad i _ _ => i
theorem ba_cat (a b : ByteArray) : (a ++ b).data.toList = a.data.toList ++ b.data.toList := by simp
theorem sc_lx {l : List UInt8} (hl : l.length ≤ 4096) (h : scE (scanA l) = none) : Lx false l (scTs (scanA l)) := by
 rcases scan_or hl with ⟨ts, h1, h2⟩ | ⟨j, x, _, h2⟩
 · rw [h2]
   exact h1
 · rw [h2] at h
   cases h
theorem pad_sp {c : UInt8} (h1 : ¬ c = 37) (h2 : blankB c = true) {p : List UInt8} (hp : padB p) : padB (c :: p) := fun x => by
 rw [List.cons_append, skip_cons, if_neg h1, if_pos h2, hp, List.length_cons]
 omega
theorem pad_nil : padB [] := fun x => by simp
end Go.Proofs.YtanhhihechakhaaGreatDoor.TokP
set_option linter.unusedVariables false
set_option linter.unusedSimpArgs false
namespace Go.Proofs.YtanhhihechakhaaGreatDoor.TermP
open Go.RowKit Go.Proofs.YtanhhihechakhaaGreatDoor.E
inductive Tm where
 | mk (k n : Int) (s : ByteArray) (kids : List Tm)
inductive GT where
 | mk (k n : Int) (s : ByteArray) (A : Option Addr) (c : Nat) (kids : List GT)
namespace Tm
def k : Tm → Int | mk k _ _ _ => k
def n : Tm → Int | mk _ n _ _ => n
def s : Tm → ByteArray | mk _ _ s _ => s
def kids : Tm → List Tm | mk _ _ _ l => l
theorem eta (t : Tm) : Tm.mk t.k t.n t.s t.kids = t := by cases t; rfl
theorem ind {P : Tm → Prop} (h : ∀ k n s kids, (∀ t, t ∈ kids → P t) → P (.mk k n s kids)) : ∀ t, P t := fun t =>
 Tm.rec (motive_1 := P) (motive_2 := fun l => ∀ t, t ∈ l → P t) (fun k n s l ih => h k n s l ih) (fun _ ht => (List.not_mem_nil ht).elim)
  (fun x l hx hl t ht => by
   rcases List.mem_cons.1 ht with rfl | ht
   · exact hx
   · exact hl t ht) t
end Tm
namespace GT
def k : GT → Int | mk k _ _ _ _ _ => k
def n : GT → Int | mk _ n _ _ _ _ => n
def s : GT → ByteArray | mk _ _ s _ _ _ => s
def A : GT → Option Addr | mk _ _ _ A _ _ => A
def c : GT → Nat | mk _ _ _ _ c _ => c
def kids : GT → List GT | mk _ _ _ _ _ l => l
theorem ind {P : GT → Prop} (h : ∀ k n s A c kids, (∀ t, t ∈ kids → P t) → P (.mk k n s A c kids)) : ∀ t, P t := fun t =>
 GT.rec (motive_1 := P) (motive_2 := fun l => ∀ t, t ∈ l → P t) (fun k n s A c l ih => h k n s A c l ih) (fun _ ht => (List.not_mem_nil ht).elim)
  (fun x l hx hl t ht => by
   rcases List.mem_cons.1 ht with rfl | ht
   · exact hx
   · exact hl t ht) t
def cells (t : GT) : List Value := [.int .i64 t.k, .int .i64 t.n, .string t.s, .slice t.A t.kids.length t.c]
mutual
/-- what is meant -/
def tm : GT → Tm | mk k n s _ _ kids => .mk k n s (tms kids)
def tms : List GT → List Tm | [] => [] | t :: l => tm t :: tms l
end
theorem tms_map : ∀ l : List GT, tms l = l.map tm
 | [] => by simp [tms]
 | t :: l => by simp [tms, tms_map l]
theorem tm_mk (k n : Int) (s : ByteArray) (A : Option Addr) (c : Nat) (kids : List GT) : (GT.mk k n s A c kids).tm = .mk k n s (kids.map tm) := by rw [tm, tms_map]
theorem tm_kids (t : GT) : t.tm.kids = t.kids.map tm := by cases t; rw [tm_mk]; rfl
theorem tm_k (t : GT) : t.tm.k = t.k := by cases t; rw [tm_mk]; rfl
theorem tm_n (t : GT) : t.tm.n = t.n := by cases t; rw [tm_mk]; rfl
theorem tm_s (t : GT) : t.tm.s = t.s := by cases t; rw [tm_mk]; rfl
theorem cells_len : ∀ l : List GT, ∀ c ∈ l.map cells, c.length = 4 := fun l c hc => by
 obtain ⟨t, _, rfl⟩ := List.mem_map.1 hc
 rfl
theorem cells_ones (l : List GT) : ∀ u ∈ (l.map cells).flatten, u.oneCell' = true := fun u hu => by
 obtain ⟨c, hc, hu⟩ := List.mem_flatten.1 hu
 obtain ⟨e, _, rfl⟩ := List.mem_map.1 hc
 simp only [cells, List.mem_cons, List.not_mem_nil, or_false] at hu
 rcases hu with rfl | rfl | rfl | rfl <;> rfl
theorem cells_snoc (l : List GT) (t : GT) : ((l ++ [t]).map cells).flatten = (l.map cells).flatten ++ [.int .i64 t.k, .int .i64 t.n, .string t.s, .slice t.A t.kids.length t.c] := by
 rw [List.map_append, List.flatten_append]
 simp [cells]
end GT
inductive Lies (h : Hp) : GT → Prop
 | intro (k n : Int) (s : ByteArray) (A : Option Addr) (c : Nat) (kids : List GT) (hc : kids.length ≤ c) (hr : RowsAt h A 4 (kids.map GT.cells)) (hk : ∀ t, t ∈ kids → Lies h t) : Lies h (.mk k n s A c kids)
theorem Lies.rows {h : Hp} {k n : Int} {s : ByteArray} {A : Option Addr} {c : Nat} {kids : List GT} (hl : Lies h (.mk k n s A c kids)) : RowsAt h A 4 (kids.map GT.cells) := by cases hl; assumption
theorem Lies.cap {h : Hp} {k n : Int} {s : ByteArray} {A : Option Addr} {c : Nat} {kids : List GT} (hl : Lies h (.mk k n s A c kids)) : kids.length ≤ c := by cases hl; assumption
theorem Lies.kid {h : Hp} {k n : Int} {s : ByteArray} {A : Option Addr} {c : Nat} {kids : List GT} (hl : Lies h (.mk k n s A c kids)) {t : GT} (ht : t ∈ kids) : Lies h t := by
 cases hl with
 | intro _ _ _ _ _ _ _ _ hk => exact hk t ht
theorem Lies.at {h : Hp} {k n : Int} {s : ByteArray} {A : Option Addr} {c : Nat} {kids : List GT} (hl : Lies h (.mk k n s A c kids)) {i : Nat} {t : GT} (ht : kids[i]? = some t) : Lies h t := hl.kid (List.mem_of_getElem? ht)
theorem Lies.le {h h' : Hp} (hh : h.Le h') : ∀ {t : GT}, Lies h t → Lies h' t := fun {t} => by
 induction t using GT.ind with
 | h k n s A c kids ih =>
  intro hl
  exact .intro k n s A c kids hl.cap (hl.rows.le hh) (fun t ht => ih t ht (hl.kid ht))
inductive Fits : GT → Prop
 | intro (k n : Int) (s : ByteArray) (A : Option Addr) (c : Nat) (kids : List GT) (hk0 : -9223372036854775808 ≤ k) (hk1 : k ≤ 9223372036854775807) (hn0 : -9223372036854775808 ≤ n) (hn1 : n ≤ 9223372036854775807)
     (hs : s.size ≤ 140737488355328) (hb : kids.length * 56 ≤ 140737488355328) (hkid : ∀ t, t ∈ kids → Fits t) : Fits (.mk k n s A c kids)
theorem Fits.kid {k n : Int} {s : ByteArray} {A : Option Addr} {c : Nat} {kids : List GT} (hl : Fits (.mk k n s A c kids)) {t : GT} (ht : t ∈ kids) : Fits t := by
 cases hl with
 | intro _ _ _ _ _ _ _ _ _ _ _ _ hk => exact hk t ht
theorem Fits.at {k n : Int} {s : ByteArray} {A : Option Addr} {c : Nat} {kids : List GT} (hl : Fits (.mk k n s A c kids)) {i : Nat} {t : GT} (ht : kids[i]? = some t) : Fits t := hl.kid (List.mem_of_getElem? ht)
theorem Fits.room {k n : Int} {s : ByteArray} {A : Option Addr} {c : Nat} {kids : List GT} (hl : Fits (.mk k n s A c kids)) : kids.length * 56 ≤ 140737488355328 := by cases hl; assumption
theorem Fits.nums {k n : Int} {s : ByteArray} {A : Option Addr} {c : Nat} {kids : List GT} (hl : Fits (.mk k n s A c kids)) : (-9223372036854775808 ≤ k ∧ k ≤ 9223372036854775807) ∧ (-9223372036854775808 ≤ n ∧ n ≤ 9223372036854775807) ∧ s.size ≤ 140737488355328 := by
 cases hl; exact ⟨⟨by assumption, by assumption⟩, ⟨by assumption, by assumption⟩, by assumption⟩
/-! how many parts -/
mutual
def size : Tm → Nat | .mk _ _ _ kids => 1 + sizes kids
def sizes : List Tm → Nat | [] => 0 | t :: l => size t + sizes l
end
/-! .. as the machine counts them -/
mutual
def sizeW : GT → Int | .mk _ _ _ _ _ kids => sizesW 1 kids
def sizesW : Int → List GT → Int | a, [] => a | a, t :: l => sizesW (IntKind.i64.wrap (a + sizeW t)) l
end
theorem sizesW_snoc : ∀ (l : List GT) (a : Int) (t : GT), sizesW a (l ++ [t]) = IntKind.i64.wrap (sizesW a l + sizeW t)
 | [], a, t => by simp [sizesW]
 | x :: l, a, t => by
  rw [List.cons_append, sizesW, sizesW]
  exact sizesW_snoc l _ t
theorem take_snoc {α : Type} {l : List α} {i : Nat} {x : α} (h : l[i]? = some x) : l.take (i + 1) = l.take i ++ [x] := by rw [List.take_add_one, h]; rfl
theorem sizesW_succ {l : List GT} {a : Int} {i : Nat} {t : GT} (h : l[i]? = some t) : IntKind.i64.wrap (sizesW a (l.take i) + sizeW t) = sizesW a (l.take (i + 1)) := by rw [take_snoc h, sizesW_snoc]
theorem sizesW_all {k n : Int} {s : ByteArray} {A : Option Addr} {c : Nat} {kids : List GT} : sizesW 1 (kids.take kids.length) = sizeW (.mk k n s A c kids) := by rw [List.take_length, sizeW]
end Go.Proofs.YtanhhihechakhaaGreatDoor.TermP
set_option linter.unusedVariables false
set_option linter.unusedSimpArgs false
namespace Go.Proofs.YtanhhihechakhaaGreatDoor.WrP
open Go.RowKit Go.Proofs.YtanhhihechakhaaGreatDoor.E Go.Proofs.YtanhhihechakhaaGreatDoor.ReplP Go.Proofs.YtanhhihechakhaaGreatDoor.TokP Go.Proofs.YtanhhihechakhaaGreatDoor.TermP
def qL (s : ByteArray) : List UInt8 := quoteL s.data.toList (plainB s.data.toList)
def brL : ByteArray := ⟨#[91, 93]⟩
def nmL (s : ByteArray) (k : Nat) : List UInt8 := if s = brL ∧ 0 < k then [39, 91, 93, 39] else qL s
mutual
def txt : Tm → List UInt8
 | .mk k n s kids => if k = 1 then 95 :: Lib.itoa n else if k = 2 then Lib.itoa n else if k = 3 then (if kids.length = 0 then qL s else nmL s kids.length ++ [40] ++ txts kids ++ [41]) else if k = 4 ∧ kids.length = 1 then [64, 40] ++ txts kids ++ [44] ++ Lib.itoa n ++ [41] else [63]
def txts : List Tm → List UInt8
 | [] => []
 | t :: r => txt t ++ txtsC r
def txtsC : List Tm → List UInt8
 | [] => []
 | t :: r => [44] ++ txt t ++ txtsC r
end
theorem txts_cons (t : Tm) (r : List Tm) : txts (t :: r) = txt t ++ txtsC r := by rw [txts]
theorem txtsC_cons (t : Tm) (r : List Tm) : txtsC (t :: r) = [44] ++ txt t ++ txtsC r := by rw [txtsC]
theorem txtsC_nil : txtsC [] = [] := by rw [txtsC]
theorem txtsC_snoc : ∀ (r : List Tm) (t : Tm), txtsC (r ++ [t]) = txtsC r ++ [44] ++ txt t
 | [], t => by rw [List.nil_append, txtsC_cons, txtsC_nil, List.nil_append, List.append_nil]
 | x :: r, t => by
  rw [List.cons_append, txtsC_cons, txtsC_cons, txtsC_snoc r t]
  simp only [List.append_assoc]
theorem txts_one (t : Tm) : txts [t] = txt t := by rw [txts_cons, txtsC_nil, List.append_nil]
theorem txts_nil : txts [] = [] := by rw [txts]
theorem txts_snoc {r : List Tm} (h : r ≠ []) (t : Tm) : txts (r ++ [t]) = txts r ++ [44] ++ txt t := by
 cases r with
 | nil => exact absurd rfl h
 | cons x r =>
  rw [List.cons_append, txts_cons, txts_cons, txtsC_snoc]
  simp only [List.append_assoc]
theorem txts_succ {l : List GT} {i : Nat} {t : GT} (h : l[i]? = some t) : txts ((l.take (i + 1)).map GT.tm) = txts ((l.take i).map GT.tm) ++ (if i = 0 then [] else [44]) ++ txt t.tm := by
 have hlt := (List.getElem?_eq_some_iff.1 h).1
 rw [take_snoc h, List.map_append]
 by_cases h0 : i = 0
 · subst h0
   rw [if_pos rfl, List.take_zero, List.map_nil, List.nil_append, List.map_cons, List.map_nil, txts_one, txts_nil, List.nil_append, List.nil_append]
 · rw [if_neg h0]
   exact txts_snoc (by intro h9; have := congrArg List.length h9; rw [List.length_map, List.length_take, List.length_nil] at this; omega) _
theorem txt_var {t : Tm} (h : t.k = 1) : txt t = 95 :: Lib.itoa t.n := by cases t; rw [txt]; exact if_pos h
theorem txt_int {t : Tm} (h : t.k = 2) : txt t = Lib.itoa t.n := by
 cases t with
 | mk k n s kids =>
  have h : k = 2 := h
  rw [txt, h]
  rfl
theorem txt_fun {k n : Int} {s : ByteArray} {kids : List Tm} (h : k = 3) : txt (.mk k n s kids) = if kids.length = 0 then qL s else nmL s kids.length ++ [40] ++ txts kids ++ [41] := by
 rw [txt, h]
 rfl
theorem txt_seal {k n : Int} {s : ByteArray} {kids : List Tm} (h : k = 4) (hk : kids.length = 1) : txt (.mk k n s kids) = [64, 40] ++ txts kids ++ [44] ++ Lib.itoa n ++ [41] := by
 rw [txt, if_neg (by omega), if_neg (by omega), if_neg (by omega), if_pos ⟨h, hk⟩]
theorem txt_else {k n : Int} {s : ByteArray} {kids : List Tm} (h1 : ¬ k = 1) (h2 : ¬ k = 2) (h3 : ¬ k = 3) (h4 : ¬ (k = 4 ∧ kids.length = 1)) : txt (.mk k n s kids) = [63] := by
 rw [txt, if_neg h1, if_neg h2, if_neg h3, if_neg h4]
/-! figures -/
theorem dec_fig : ∀ (k n : Nat), n ≤ k → Lib.decDigits n = figL n
 | k, n, h => by
  by_cases hn : n < 10
  · rw [Lib.decDigits, dif_pos hn, fig_lt hn]
  · match k, h with
    | 0, h => omega
    | k + 1, h => rw [Lib.decDigits, dif_neg hn, fig_ge hn, dec_fig k (n / 10) (by omega)]
theorem itoa_neg {n : Int} (h : n < 0) : Lib.itoa n = 45 :: figL n.natAbs := by
 unfold Lib.itoa
 rw [if_pos h, dec_fig _ _ (Nat.le_refl _)]
theorem itoa_pos {n : Int} (h : ¬ n < 0) : Lib.itoa n = figL n.toNat := by
 unfold Lib.itoa
 rw [if_neg h, dec_fig _ _ (Nat.le_refl _)]
theorem fig_inj {a b : Nat} (h : figL a = figL b) : a = b := by
 have h1 := (fig_all a a (Nat.le_refl _)).2.1
 have h2 := (fig_all b b (Nat.le_refl _)).2.1
 rw [h, h2] at h1
 exact h1.symm
def Dl (x : List UInt8) : Prop := x = [] ∨ ∃ r, x = 44 :: r ∨ x = 41 :: r
theorem dl_digit {x : List UInt8} (h : Dl x) : runB digitB x = 0 := by
 rcases h with rfl | ⟨r, rfl | rfl⟩
 · rfl
 · exact runB_no (by decide)
 · exact runB_no (by decide)
theorem run_plus {p : UInt8 → Bool} : ∀ (u x : List UInt8), u.all p = true → runB p x = 0 → runB p (u ++ x) = u.length
 | [], x, _, h => h
 | c :: u, x, hu, h => by
  rw [List.all_cons, Bool.and_eq_true] at hu
  rw [List.cons_append, runB_yes hu.1, run_plus u x hu.2 h]
  rfl
theorem run_cut {p : UInt8 → Bool} {u v x y : List UInt8} (hu : u.all p = true) (hv : v.all p = true) (hx : runB p x = 0) (hy : runB p y = 0) (h : u ++ x = v ++ y) : u = v ∧ x = y := by
 have h1 := run_plus u x hu hx
 have h2 := run_plus v y hv hy
 rw [h, h2] at h1
 exact List.append_inj h h1.symm
theorem figc {n : Nat} {x : List UInt8} : ∃ c t, figL n ++ x = c :: t ∧ digitB c = true := by
 obtain ⟨c, t, h, hd⟩ := fig_cons n
 exact ⟨c, t ++ x, by rw [h]; rfl, hd⟩
theorem itoa_cut {n m : Int} {x y : List UInt8} (hx : Dl x) (hy : Dl y) (h : Lib.itoa n ++ x = Lib.itoa m ++ y) : n = m ∧ x = y := by
 have fc := fun (a b : Nat) (h : figL a ++ x = figL b ++ y) => run_cut (fig_all a a (Nat.le_refl _)).1 (fig_all b b (Nat.le_refl _)).1 (dl_digit hx) (dl_digit hy) h
 by_cases hn : n < 0
 · by_cases hm : m < 0
   · rw [itoa_neg hn, itoa_neg hm, List.cons_append, List.cons_append, List.cons.injEq] at h
     have h1 := fc _ _ h.2
     have h2 := fig_inj h1.1
     exact ⟨by omega, h1.2⟩
   · rw [itoa_neg hn, itoa_pos hm, List.cons_append] at h
     obtain ⟨c, t, hc, hd⟩ := figc (n := m.toNat) (x := y)
     rw [hc, List.cons.injEq] at h
     rw [← h.1] at hd
     exact absurd hd (by decide)
 · by_cases hm : m < 0
   · rw [itoa_pos hn, itoa_neg hm, List.cons_append] at h
     obtain ⟨c, t, hc, hd⟩ := figc (n := n.toNat) (x := x)
     rw [hc, List.cons.injEq] at h
     rw [h.1] at hd
     exact absurd hd (by decide)
   · rw [itoa_pos hn, itoa_pos hm] at h
     have h1 := fc _ _ h
     have h2 := fig_inj h1.1
     exact ⟨by omega, h1.2⟩
theorem itoa_head (n : Int) (x : List UInt8) : (∃ c t, Lib.itoa n ++ x = c :: t ∧ digitB c = true) ∨ (∃ c t, Lib.itoa n ++ x = 45 :: c :: t ∧ digitB c = true) := by
 by_cases hn : n < 0
 · rw [itoa_neg hn, List.cons_append]
   obtain ⟨c, t, hc, hd⟩ := figc (n := n.natAbs) (x := x)
   exact .inr ⟨c, t, by rw [hc], hd⟩
 · rw [itoa_pos hn]
   obtain ⟨c, t, hc, hd⟩ := figc (n := n.toNat) (x := x)
   exact .inl ⟨c, t, hc, hd⟩
inductive Pn : List UInt8 → Prop
 | br : Pn [91, 93]
 | ex : Pn [33]
 | se : Pn [59]
 | lo (c : UInt8) (t : List UInt8) (h : smallB c = true) (ha : (c :: t).all letterB = true) : Pn (c :: t)
 | si (c : UInt8) (t : List UInt8) (ha : (c :: t).all signB = true) (h46 : ¬ (c :: t) = [46]) : Pn (c :: t)
theorem plain_pn {l : List UInt8} (h : plainB l = true) : Pn l := by
 have h1 : (l == [] || l == [46]) = false := by
  cases h1 : (l == [] || l == [46]) with
  | false => rfl
  | true => unfold plainB at h; rw [if_pos h1] at h; cases h
 rw [Bool.or_eq_false_iff, beq_eq_false_iff_ne, beq_eq_false_iff_ne] at h1
 obtain ⟨c, t, rfl⟩ := List.exists_cons_of_ne_nil h1.1
 by_cases h91 : c :: t = [91, 93]
 · rw [h91]; exact .br
 by_cases h33 : c :: t = [33]
 · rw [h33]; exact .ex
 by_cases h59 : c :: t = [59]
 · rw [h59]; exact .se
 rw [plain_end (l := c :: t) (by simp) (by rw [beq_eq_false_iff_ne]; exact h1.2) (by rw [beq_eq_false_iff_ne]; exact h91) (by rw [beq_eq_false_iff_ne]; exact h33) (by rw [beq_eq_false_iff_ne]; exact h59)] at h
 rcases (Bool.or_eq_true _ _).mp h with h | h
 · rw [Bool.and_eq_true] at h
   exact .lo c t h.1 h.2
 · exact .si c t h h1.2
theorem q_plain {s : ByteArray} (h : plainB s.data.toList = true) : qL s = s.data.toList := by unfold qL quoteL; rw [if_pos h]
theorem q_mark {s : ByteArray} (h : ¬ plainB s.data.toList = true) : qL s = 39 :: (repl s.data.toList ++ [39]) := by unfold qL quoteL; rw [if_neg h]; rfl
theorem ba_inj {s t : ByteArray} (h : s.data.toList = t.data.toList) : s = t := by rw [← ba_eta s, ← ba_eta t, h]
end Go.Proofs.YtanhhihechakhaaGreatDoor.WrP
set_option linter.unusedVariables false
set_option linter.unusedSimpArgs false
namespace Go.Proofs.YtanhhihechakhaaGreatDoor.WrP
open Go.RowKit Go.Proofs.YtanhhihechakhaaGreatDoor.E Go.Proofs.YtanhhihechakhaaGreatDoor.ReplP Go.Proofs.YtanhhihechakhaaGreatDoor.TokP Go.Proofs.YtanhhihechakhaaGreatDoor.TermP
def atS : ByteArray := ⟨#[64]⟩
theorem nm0 (s : ByteArray) : nmL s 0 = qL s := by
 unfold nmL
 rw [if_neg (by omega)]
theorem txt_v (n : Int) (s : ByteArray) (kids : List Tm) (x : List UInt8) : txt (.mk 1 n s kids) ++ x = 95 :: (Lib.itoa n ++ x) := by rw [txt_var rfl]; rfl
theorem txt_i (n : Int) (s : ByteArray) (kids : List Tm) (x : List UInt8) : txt (.mk 2 n s kids) ++ x = Lib.itoa n ++ x := by rw [txt_int rfl]; rfl
theorem txt_sealed (n : Int) (s : ByteArray) (t : Tm) (x : List UInt8) : txt (.mk 4 n s [t]) ++ x = 64 :: 40 :: (txt t ++ 44 :: (Lib.itoa n ++ 41 :: x)) := by
 rw [txt_seal rfl rfl, txts_one]
 simp
end Go.Proofs.YtanhhihechakhaaGreatDoor.WrP
set_option linter.unusedVariables false
set_option linter.unusedSimpArgs false
namespace Go.Proofs.YtanhhihechakhaaGreatDoor.WrP
open Go.RowKit Go.Proofs.YtanhhihechakhaaGreatDoor.E Go.Proofs.YtanhhihechakhaaGreatDoor.ReplP Go.Proofs.YtanhhihechakhaaGreatDoor.TokP Go.Proofs.YtanhhihechakhaaGreatDoor.TermP
mutual
/-- how much a term holds -/
def wtG : GT → Nat | .mk _ _ s _ _ kids => s.size + 1 + wtGs kids
def wtGs : List GT → Nat | [] => 0 | t :: l => wtG t + wtGs l
end
theorem wtG_mk (k n : Int) (s : ByteArray) (A : Option Addr) (c : Nat) (kids : List GT) : wtG (.mk k n s A c kids) = s.size + 1 + wtGs kids := by rw [wtG]
theorem wtGs_nil : wtGs [] = 0 := by rw [wtGs]
theorem wtGs_cons (t : GT) (l : List GT) : wtGs (t :: l) = wtG t + wtGs l := by rw [wtGs]
theorem wtGs_kid : ∀ {l : List GT} {t : GT}, t ∈ l → wtG t ≤ wtGs l
 | [], t, h => (List.not_mem_nil h).elim
 | x :: l, t, h => by
  rw [wtGs_cons]
  rcases List.mem_cons.1 h with rfl | h
  · omega
  · have := wtGs_kid h
    omega
theorem itoa_len {n : Int} (h0 : -9223372036854775808 ≤ n) (h1 : n ≤ 9223372036854775807) : (Lib.itoa n).length ≤ 20 := by
 by_cases hn : n < 0
 · rw [itoa_neg hn, List.length_cons]
   have := fig_len 18 n.natAbs (by omega)
   omega
 · rw [itoa_pos hn]
   have := fig_len 18 n.toNat (by omega)
   omega
theorem q_len (s : ByteArray) : (qL s).length ≤ 2 * s.size + 2 := by
 unfold qL quoteL
 have h1 := repl_le s.data.toList
 have h2 : s.data.toList.length = s.size := rfl
 split <;> (try simp only [List.length_append, List.length_cons, List.length_nil]) <;> omega
theorem nm_len (s : ByteArray) (k : Nat) : (nmL s k).length ≤ 2 * s.size + 4 := by
 unfold nmL
 split
 · show 4 ≤ _
   omega
 · have := q_len s
   omega
theorem txtsC_len : ∀ l : List GT, (txtsC (l.map GT.tm)).length = (l.map fun t => (txt t.tm).length + 1).sum
 | [] => by rw [List.map_nil, txtsC_nil]; rfl
 | t :: l => by
  rw [List.map_cons, txtsC_cons, List.map_cons, List.sum_cons, List.length_append, List.length_append, txtsC_len l]
  simp only [List.length_cons, List.length_nil]
  omega
theorem txts_le : ∀ l : List GT, (txts (l.map GT.tm)).length ≤ (l.map fun t => (txt t.tm).length + 1).sum
 | [] => by rw [List.map_nil, txts_nil]; exact Nat.zero_le _
 | t :: l => by
  rw [List.map_cons, txts_cons, List.map_cons, List.sum_cons, List.length_append, txtsC_len l]
  omega
theorem sum_le2 {α : Type} {f g : α → Nat} : ∀ (l : List α), (∀ t ∈ l, f t ≤ g t) → (l.map f).sum ≤ (l.map g).sum
 | [], _ => Nat.le_refl _
 | x :: l, h => by
  rw [List.map_cons, List.map_cons, List.sum_cons, List.sum_cons]
  have h1 := h x (List.mem_cons_self)
  have h2 := sum_le2 l (fun t ht => h t (List.mem_cons_of_mem _ ht))
  omega
theorem wtGs_sum : ∀ l : List GT, (l.map fun t => 28 * wtG t).sum = 28 * wtGs l
 | [] => by rw [wtGs_nil]; rfl
 | t :: l => by
  rw [List.map_cons, List.sum_cons, wtGs_cons, wtGs_sum l]
  omega
theorem txt_len : ∀ t : GT, Fits t → (txt t.tm).length + 1 ≤ 28 * wtG t := fun t => by
 induction t using GT.ind with
 | h k n s A c kids ih =>
  intro hf
  have hn := hf.nums.2.1
  have hi := itoa_len hn.1 hn.2
  have hk : (txts (kids.map GT.tm)).length ≤ 28 * wtGs kids := Nat.le_trans (txts_le kids) (by rw [← wtGs_sum]; exact sum_le2 kids fun t ht => ih t ht (hf.kid ht))
  rw [GT.tm_mk, wtG_mk]
  by_cases h1 : k = 1
  · rw [txt_var (t := .mk k n s _) h1]
    show (95 :: Lib.itoa n).length + 1 ≤ _
    rw [List.length_cons]
    omega
  by_cases h2 : k = 2
  · rw [txt_int (t := .mk k n s _) h2]
    show (Lib.itoa n).length + 1 ≤ _
    omega
  by_cases h3 : k = 3
  · rw [txt_fun h3, List.length_map]
    have e1 := q_len s
    have e2 := nm_len s kids.length
    split <;> (try simp only [List.length_append, List.length_cons, List.length_nil]) <;> omega
  by_cases h4 : k = 4 ∧ kids.length = 1
  · rw [txt_seal h4.1 (by rw [List.length_map]; exact h4.2)]
    simp only [List.length_append, List.length_cons, List.length_nil]
    omega
  · rw [txt_else h1 h2 h3 (by rw [List.length_map]; exact h4)]
    show 1 + 1 ≤ _
    omega
theorem txts_mono : ∀ (l : List GT) (i : Nat), (txts ((l.take i).map GT.tm)).length ≤ (txts (l.map GT.tm)).length
 | [], i => by rw [List.take_nil]; exact Nat.le_refl _
 | t :: l, 0 => by rw [List.take_zero, List.map_nil, txts_nil]; exact Nat.zero_le _
 | t :: l, i + 1 => by
  rw [List.take_succ_cons, List.map_cons, List.map_cons, txts_cons, txts_cons, List.length_append, List.length_append, txtsC_len, txtsC_len]
  have : ((l.take i).map fun t => (txt t.tm).length + 1).sum ≤ (l.map fun t => (txt t.tm).length + 1).sum := by
   conv => rhs; rw [← List.take_append_drop i l, List.map_append, List.sum_append]
   omega
  omega
theorem q_ne (s : ByteArray) : qL s ≠ [] := fun h => by
 unfold qL quoteL at h
 split at h
 · rename_i hp
   rw [h] at hp
   exact absurd hp (by decide)
 · simp at h
theorem itoa_ne (n : Int) : Lib.itoa n ≠ [] := fun h => by
 rcases itoa_head n [] with ⟨c, t, hc, _⟩ | ⟨c, t, hc, _⟩ <;> · rw [h] at hc; cases hc
theorem txt_ne (t : Tm) : txt t ≠ [] := by
 cases t with
 | mk k n s kids =>
  rw [txt]
  split
  · simp
  split
  · exact itoa_ne n
  split
  · split
    · exact q_ne s
    · simp
  split
  · simp
  · simp
/-! answers -/
def hidB (s : ByteArray) : Bool := firstB (fun c => c == 95) s.data.toList
def rowsA : List ByteArray → List Tm → List (List UInt8)
 | n :: ns, v :: vs => if hidB n = true then rowsA ns vs else (n.data.toList ++ [32, 61, 32] ++ txt v) :: rowsA ns vs
 | _, _ => []
def joinL : List (List UInt8) → List UInt8
 | [] => []
 | x :: r => x ++ (r.flatMap fun y => [44, 32] ++ y)
def ansL (ns : List ByteArray) (vs : List Tm) : List UInt8 := if rowsA ns vs = [] then [121, 101, 115] else joinL (rowsA ns vs)
theorem rowsA_nil (ns : List ByteArray) : rowsA ns [] = [] := by cases ns <;> rfl
theorem rowsA_succ : ∀ (ns : List ByteArray) (vs : List Tm) (i : Nat) (n : ByteArray) (v : Tm), ns[i]? = some n → vs[i]? = some v → rowsA (ns.take (i + 1)) vs = rowsA (ns.take i) vs ++ (if hidB n = true then [] else [n.data.toList ++ [32, 61, 32] ++ txt v])
 | [], _, i, n, v, h, _ => by simp at h
 | _ :: _, [], i, n, v, _, h => by simp at h
 | x :: ns, y :: vs, 0, n, v, h1, h2 => by
  simp only [List.getElem?_cons_zero, Option.some.injEq] at h1 h2
  subst h1 h2
  rw [List.take_succ_cons, List.take_zero, List.take_zero]
  simp only [rowsA, List.nil_append]
 | x :: ns, y :: vs, i + 1, n, v, h1, h2 => by
  have ih := rowsA_succ ns vs i n v (by simpa using h1) (by simpa using h2)
  rw [List.take_succ_cons, List.take_succ_cons]
  simp only [rowsA]
  split
  · exact ih
  · rw [ih, List.cons_append]
theorem rowsA_more : ∀ (ns : List ByteArray) (vs : List Tm) (i : Nat), vs.length ≤ i → rowsA (ns.take i) vs = rowsA ns vs
 | [], vs, i, h => by rw [List.take_nil]
 | x :: ns, [], i, h => by rw [rowsA_nil, rowsA_nil]
 | x :: ns, y :: vs, 0, h => by simp at h
 | x :: ns, y :: vs, i + 1, h => by
  rw [List.take_succ_cons]
  simp only [rowsA]
  rw [rowsA_more ns vs i (by simpa using h)]
end Go.Proofs.YtanhhihechakhaaGreatDoor.WrP
set_option linter.unusedVariables false
set_option linter.unusedSimpArgs false
namespace Go.Proofs.YtanhhihechakhaaGreatDoor
open Go.RowKit Go.Proofs.YtanhhihechakhaaGreatDoor.E Go.Proofs.YtanhhihechakhaaGreatDoor.ReplP Go.Proofs.YtanhhihechakhaaGreatDoor.TokP Go.Proofs.YtanhhihechakhaaGreatDoor.TermP Go.Proofs.YtanhhihechakhaaGreatDoor.WrP
theorem bsz (l : List UInt8) : (⟨l.toArray⟩ : ByteArray).size = l.length := rfl
theorem bdl (l : List UInt8) : (⟨l.toArray⟩ : ByteArray).data.toList = l := rfl
theorem quoteB_q (s : ByteArray) : quoteB s (plainB s.data.toList) = ⟨(qL s).toArray⟩ := by
 unfold quoteB qL quoteL
 split
 · exact (ba_eta s).symm
 · apply ByteArray.ext
   simp
set_option maxRecDepth 100000 in
theorem fig_c (n : Int) (h : Hp) (h0 : -9223372036854775808 ≤ n) (h1 : n ≤ 9223372036854775807) (ht : Tab10 h) : C0 Tryz.prog 46 [.int .i64 n] h (.string ⟨(Lib.itoa n).toArray⟩) := by
 refine enter0 Tryz.func46 rfl rfl rfl (fun w => ?_)
 refine cy_seq ?_
 refine cy_region ?_
 refine sy_assign rfl rfl rfl ?_
 refine sy_nil rfl ?_
 refine ny_next ?_
 refine cy_seq ?_
 refine cy_region ?_
 refine sy_move rfl rfl rfl ?_
 refine sy_call rfl call_62 rfl (fmt_c n _ h0 h1 ht) rfl rfl ?_
 refine sy_assign rfl rfl rfl ?_
 refine sy_nil rfl ?_
 refine ny_next ?_
 refine cy_ret ?_
 refine ny_finR (res1 rfl rfl) (fun w hs => ⟨?_, hs.frm⟩)
 rfl
set_option maxRecDepth 100000 in
theorem name_c (t : GT) (h : Hp) (hs : t.s.size ≤ 140737488355328) (hk : t.kids.length ≤ 9223372036854775807) : C0 Tryz.prog 47 [.agg (GT.cells t).toArray] h (.string ⟨(nmL t.s t.kids.length).toArray⟩) := by
 show C0 Tryz.prog 47 [.agg #[.int .i64 t.k, .int .i64 t.n, .string t.s, .slice t.A t.kids.length t.c]] h _
 refine enter0 Tryz.func47 rfl rfl rfl (fun w => ?_)
 refine cy_seq ?_
 refine cy_region ?_
 refine sy_box rfl rfl rfl rfl (fun b1 hb1 hM1 => ?_) (by simp)
 refine sy_assign rfl rfl rfl ?_
 refine sy_nil rfl ?_
 refine ny_next ?_
 refine cy_seq ?_
 refine cy_seq ?_
 refine cy_region ?_
 refine sy_field fld_24_2 rfl rfl rfl ?_
 refine sy_ldr 0 one_9 rfl rfl rfl rfl rfl ?_
 refine sy_eqs rfl rfl rfl rfl ?_
 refine sy_move rfl rfl rfl ?_
 refine sy_cond (d := 6) _ rfl rfl (fun hg6 => ?_) (fun hg6 => ?_)
 · refine sy_field fld_24_3 rfl rfl rfl ?_
   refine sy_ldr 0 one_22 rfl rfl rfl rfl rfl ?_
   refine sy_len rfl (len_slice Tryz.underlying22 _ _ _) rfl rfl ?_
   refine sy_cmp rfl rfl rfl rfl rfl ?_
   refine sy_pickT rfl rfl rfl rfl ?_
   refine sy_nil rfl ?_
   refine ny_next ?_
   refine cy_cond rfl (fun hc11 => ?_) (fun hc11 => ?_)
   · refine cy_seq ?_
     refine cy_region ?_
     refine sy_assign rfl rfl rfl ?_
     refine sy_nil rfl ?_
     refine ny_next ?_
     refine cy_ret ?_
     refine ny_thenR ?_
     refine ny_finR (res1 rfl rfl) (fun w hs2 => ⟨?_, hs2.frm⟩)
     refine congrArg (fun l : List UInt8 => Ending.returned (Value.string ⟨l.toArray⟩)) ?_
     unfold nmL
     have h6 : t.s = brL := ba_inj (eq_of_beq hg6)
     have h11 : 0 < t.kids.length := by have := of_decide_eq_true hc11; omega
     rw [if_pos ⟨h6, h11⟩]
   · refine cy_skip ?_
     refine ny_next ?_
     refine cy_seq ?_
     refine cy_region ?_
     refine sy_field fld_24_2 rfl rfl rfl ?_
     refine sy_ldr 0 one_9 rfl rfl rfl rfl rfl ?_
     refine sy_call rfl call_63 rfl (quote_c t.s _ _ hs (fun h => plain_c t.s h hs)) rfl rfl ?_
     rw [quoteB_q]
     refine sy_assign rfl rfl rfl ?_
     refine sy_nil rfl ?_
     refine ny_next ?_
     refine cy_ret ?_
     refine ny_finR (res1 rfl rfl) (fun w hs2 => ⟨?_, hs2.frm⟩)
     refine congrArg (fun l : List UInt8 => Ending.returned (Value.string ⟨l.toArray⟩)) ?_
     unfold nmL
     rw [if_neg]
     rintro ⟨h6, h11⟩
     (have := of_decide_eq_false hc11; omega)
 · refine sy_skip rfl rfl rfl ?_
   refine sy_skip rfl rfl rfl ?_
   refine sy_skip rfl rfl rfl ?_
   refine sy_skip rfl rfl rfl ?_
   refine sy_pickF rfl rfl rfl rfl ?_
   refine sy_nil rfl ?_
   refine ny_next ?_
   refine cy_condF rfl ?_
   refine cy_skip ?_
   refine ny_next ?_
   refine cy_seq ?_
   refine cy_region ?_
   refine sy_field fld_24_2 rfl rfl rfl ?_
   refine sy_ldr 0 one_9 rfl rfl rfl rfl rfl ?_
   refine sy_call rfl call_63 rfl (quote_c t.s _ _ hs (fun h => plain_c t.s h hs)) rfl rfl ?_
   rw [quoteB_q]
   refine sy_assign rfl rfl rfl ?_
   refine sy_nil rfl ?_
   refine ny_next ?_
   refine cy_ret ?_
   refine ny_finR (res1 rfl rfl) (fun w hs2 => ⟨?_, hs2.frm⟩)
   refine congrArg (fun l : List UInt8 => Ending.returned (Value.string ⟨l.toArray⟩)) ?_
   unfold nmL
   rw [if_neg]
   rintro ⟨h6, h11⟩
   (rw [h6] at hg6; exact absurd hg6 (by decide))
set_option maxRecDepth 100000 in
theorem write_c (b : Nat) (t : GT) : ∀ (h : Hp) (p v : Value) (xs : List UInt8), Lies h t → Fits t → Tab10 h → PSt b p → xs.length + (txt t.tm).length ≤ 70368744177600 → CR Tryz.prog 30 [.agg (GT.cells t).toArray, .func (.func 31) #[.pointer (some ⟨b, 0, none⟩)] #[]] h [.blk b (.cells [p, v].toArray 53 (0, 0)), .row v 5 1 (xs).length (bvs (xs))] (fun _ : Value => .returned (.tuple #[])) (fun v' h' H' => H' = [.blk b (.cells [.pointer (some ⟨b, 0, none⟩), v'].toArray 53 (0, 0)), .row v' 5 1 (xs ++ txt t.tm).length (bvs (xs ++ txt t.tm))]) := by
 induction t using GT.ind
 rename_i tk tn ts tA tc kids ih
 intro h p v xs hl hf ht hp hz
 have hroom := hf.room
 have sz1 : ∀ a : UInt8, (⟨#[a]⟩ : ByteArray).size = 1 := fun _ => rfl
 have sz2 : ∀ a c : UInt8, (⟨#[a, c]⟩ : ByteArray).size = 2 := fun _ _ => rfl
 have dl1 : ∀ a : UInt8, (⟨#[a]⟩ : ByteArray).data.toList = [a] := fun _ => rfl
 show CR Tryz.prog 30 [.agg #[.int .i64 tk, .int .i64 tn, .string ts, .slice tA kids.length tc], .func (.func 31) #[.pointer (some ⟨b, 0, none⟩)] #[]] h _ _ _
 refine enterR Tryz.func30 rfl rfl rfl (fun w hb0 => ?_)
 refine cy_seq ?_
 refine cy_region ?_
 refine sy_box rfl rfl rfl rfl (fun b2 hb2 hM2 => ?_) hb0
 refine sy_nil rfl ?_
 refine ny_next ?_
 refine cy_block ?_
 refine cy_seq ?_
 refine cy_frz 0 rfl hM2 (fun h1 hle1 hbx => ?_)
 replace hl := hl.le hle1
 replace ht := ht.le hle1
 have hr := hl.rows
 have hil := itoa_len hf.nums.2.1.1 hf.nums.2.1.2
 have hns := hf.nums.2.2
 refine cy_region ?_
 refine sy_field fld_24_0 rfl rfl rfl ?_
 refine sy_ldh one_3 rfl (Hp.blk hbx 0 _ rfl) rfl rfl ?_
 refine sy_cmp rfl rfl rfl rfl rfl ?_
 refine sy_assign rfl rfl rfl ?_
 refine sy_nil rfl ?_
 refine ny_next ?_
 refine cy_cond rfl (fun hc8 => ?_) (fun hc8 => ?_)
 · have hk1 : tk = 1 := by simpa using hc8
   have htx : txt (GT.mk tk tn ts tA tc kids).tm = 95 :: Lib.itoa tn := by rw [GT.tm_mk]; exact txt_var (t := .mk _ _ _ _) hk1
   rw [htx] at hz
   rw [List.length_cons] at hz
   refine cy_region ?_
   refine sy_move rfl rfl rfl ?_
   refine sy_field fld_24_1 rfl rfl rfl ?_
   refine sy_ldh one_2 rfl (Hp.blk hbx 1 _ rfl) rfl rfl ?_
   refine sy_call rfl call_46 rfl (fig_c tn _ hf.nums.2.1.1 hf.nums.2.1.2 ht) rfl rfl ?_
   refine sy_cat rfl rfl (by first | omega | (simp only [ByteArray.size_append, bsz, ba_cat, bdl, dl1, List.length_append, List.length_cons, List.length_nil, sz1, sz2]; omega) | (simp [ByteArray.size_append, bsz, sz1, sz2]; done)) rfl rfl ?_
   refine sy_callbR1 [0, 0] call_31 rfl rfl rfl (writeString_c b _ _ _ _ _ hp (by first | omega | (simp only [ByteArray.size_append, bsz, ba_cat, bdl, dl1, List.length_append, List.length_cons, List.length_nil, sz1, sz2]; omega) | (simp [ByteArray.size_append, bsz, sz1, sz2]; done))) rfl rfl (fun v17 h17 H17 hx17 hle17 => ?_)
   obtain ⟨rfl, rfl⟩ := hx17
   refine sy_nil rfl ?_
   refine ny_blockN ?_
   have hE : xs ++ ((⟨#[95]⟩ : ByteArray) ++ ⟨(Lib.itoa tn).toArray⟩).data.toList = xs ++ txt (GT.mk tk tn ts tA tc kids).tm := by first | (rw [htx]; done) | (rw [htx]; simp; done)
   refine ny_fin (res0 rfl) (fun w hs => ⟨v17, _, _, rfl, ?_, hs⟩)
   rw [← hE]
   rfl
 · have hk1 : ¬ tk = 1 := by simpa using hc8
   refine cy_seq ?_
   refine cy_region ?_
   refine sy_field fld_24_0 rfl rfl rfl ?_
   refine sy_ldh one_3 rfl (Hp.blk hbx 0 _ rfl) rfl rfl ?_
   refine sy_cmp rfl rfl rfl rfl rfl ?_
   refine sy_assign rfl rfl rfl ?_
   refine sy_nil rfl ?_
   refine ny_next ?_
   refine cy_cond rfl (fun hc18 => ?_) (fun hc18 => ?_)
   · have hk2 : tk = 2 := by simpa using hc18
     have htx : txt (GT.mk tk tn ts tA tc kids).tm = Lib.itoa tn := by rw [GT.tm_mk]; exact txt_int (t := .mk _ _ _ _) hk2
     rw [htx] at hz
     refine cy_region ?_
     refine sy_move rfl rfl rfl ?_
     refine sy_field fld_24_1 rfl rfl rfl ?_
     refine sy_ldh one_2 rfl (Hp.blk hbx 1 _ rfl) rfl rfl ?_
     refine sy_call rfl call_46 rfl (fig_c tn _ hf.nums.2.1.1 hf.nums.2.1.2 ht) rfl rfl ?_
     refine sy_callbR1 [0, 0] call_31 rfl rfl rfl (writeString_c b _ _ _ _ _ hp (by first | omega | (simp only [ByteArray.size_append, bsz, ba_cat, bdl, dl1, List.length_append, List.length_cons, List.length_nil, sz1, sz2]; omega) | (simp [ByteArray.size_append, bsz, sz1, sz2]; done))) rfl rfl (fun v26 h26 H26 hx26 hle26 => ?_)
     obtain ⟨rfl, rfl⟩ := hx26
     refine sy_nil rfl ?_
     refine ny_blockN ?_
     have hE : xs ++ (⟨(Lib.itoa tn).toArray⟩ : ByteArray).data.toList = xs ++ txt (GT.mk tk tn ts tA tc kids).tm := by first | (rw [htx]; done) | (rw [htx]; simp; done)
     refine ny_fin (res0 rfl) (fun w hs => ⟨v26, _, _, rfl, ?_, hs⟩)
     rw [← hE]
     rfl
   · have hk2 : ¬ tk = 2 := by simpa using hc18
     refine cy_seq ?_
     refine cy_region ?_
     refine sy_field fld_24_0 rfl rfl rfl ?_
     refine sy_ldh one_3 rfl (Hp.blk hbx 0 _ rfl) rfl rfl ?_
     refine sy_cmp rfl rfl rfl rfl rfl ?_
     refine sy_move rfl rfl rfl ?_
     refine sy_cond (d := 31) _ rfl rfl (fun hg31 => ?_) (fun hg31 => ?_)
     · have hk3 : tk = 3 := by simpa using hg31
       refine sy_field fld_24_3 rfl rfl rfl ?_
       refine sy_ldh one_22 rfl (Hp.blk hbx 3 _ rfl) rfl rfl ?_
       refine sy_len rfl (len_slice Tryz.underlying22 _ _ _) rfl rfl ?_
       refine sy_cmp rfl rfl rfl rfl rfl ?_
       refine sy_pickT rfl rfl rfl rfl ?_
       refine sy_assign rfl rfl rfl ?_
       refine sy_nil rfl ?_
       refine ny_next ?_
       refine cy_cond rfl (fun hc27 => ?_) (fun hc27 => ?_)
       · have hk0 : kids.length = 0 := by have := eq_of_beq hc27; omega
         have htx : txt (GT.mk tk tn ts tA tc kids).tm = nmL ts kids.length := by rw [GT.tm_mk]; rw [txt_fun hk3, if_pos (by rw [List.length_map]; exact hk0), hk0, nm0]
         rw [htx] at hz
         refine cy_region ?_
         refine sy_move rfl rfl rfl ?_
         refine sy_ldah (vs := [.int .i64 tk, .int .i64 tn, .string ts, .slice tA kids.length tc]) agg_24 rfl rfl (Hp.blk hbx) rfl rfl ?_
         refine sy_call rfl call_47 rfl ((show C0 Tryz.prog 47 _ _ (.string ⟨(nmL ts kids.length).toArray⟩) from name_c (GT.mk tk tn ts tA tc kids) _ hns (by show kids.length ≤ _; omega))) rfl rfl ?_
         refine sy_callbR1 [0, 0] call_31 rfl rfl rfl (writeString_c b _ _ _ _ _ hp (by first | omega | (simp only [ByteArray.size_append, bsz, ba_cat, bdl, dl1, List.length_append, List.length_cons, List.length_nil, sz1, sz2]; omega) | (simp [ByteArray.size_append, bsz, sz1, sz2]; done))) rfl rfl (fun v40 h40 H40 hx40 hle40 => ?_)
         obtain ⟨rfl, rfl⟩ := hx40
         refine sy_nil rfl ?_
         refine ny_blockN ?_
         have hE : xs ++ (⟨(nmL ts kids.length).toArray⟩ : ByteArray).data.toList = xs ++ txt (GT.mk tk tn ts tA tc kids).tm := by first | (rw [htx]; done) | (rw [htx]; simp; done)
         refine ny_fin (res0 rfl) (fun w hs => ⟨v40, _, _, rfl, ?_, hs⟩)
         rw [← hE]
         rfl
       · have hk0 : ¬ kids.length = 0 := by
          intro h9
          rw [h9] at hc27
          simp at hc27
         have htx : txt (GT.mk tk tn ts tA tc kids).tm = nmL ts kids.length ++ [40] ++ txts (kids.map GT.tm) ++ [41] := by rw [GT.tm_mk]; rw [txt_fun hk3, if_neg (by rw [List.length_map]; exact hk0), List.length_map]
         rw [htx] at hz
         simp only [List.length_append, List.length_cons, List.length_nil] at hz
         refine cy_seq ?_
         refine cy_region ?_
         refine sy_field fld_24_0 rfl rfl rfl ?_
         refine sy_ldh one_3 rfl (Hp.blk hbx 0 _ rfl) rfl rfl ?_
         refine sy_cmp rfl rfl rfl rfl rfl ?_
         refine sy_assign rfl rfl rfl ?_
         refine sy_setT (d := 41) rfl rfl hg31 ?_
         refine sy_nil rfl ?_
         refine ny_next ?_
         refine cy_condT rfl ?_
         refine cy_seq ?_
         refine cy_region ?_
         refine sy_move rfl rfl rfl ?_
         refine sy_ldah (vs := [.int .i64 tk, .int .i64 tn, .string ts, .slice tA kids.length tc]) agg_24 rfl rfl (Hp.blk hbx) rfl rfl ?_
         refine sy_call rfl call_47 rfl ((show C0 Tryz.prog 47 _ _ (.string ⟨(nmL ts kids.length).toArray⟩) from name_c (GT.mk tk tn ts tA tc kids) _ hns (by show kids.length ≤ _; omega))) rfl rfl ?_
         refine sy_cat rfl rfl (by first | omega | (simp only [ByteArray.size_append, bsz, ba_cat, bdl, dl1, List.length_append, List.length_cons, List.length_nil, sz1, sz2]; omega) | (simp [ByteArray.size_append, bsz, sz1, sz2]; done)) rfl rfl ?_
         refine sy_callbR1 [0, 0] call_31 rfl rfl rfl (writeString_c b _ _ _ _ _ hp (by first | omega | (simp only [ByteArray.size_append, bsz, ba_cat, bdl, dl1, List.length_append, List.length_cons, List.length_nil, sz1, sz2]; omega) | (simp [ByteArray.size_append, bsz, sz1, sz2]; done))) rfl rfl (fun v49 h49 H49 hx49 hle49 => ?_)
         obtain ⟨rfl, rfl⟩ := hx49
         refine sy_nil rfl ?_
         refine ny_next ?_
         refine cy_seq ?_
         refine cy_seq ?_
         refine cy_region ?_
         refine sy_field fld_24_3 rfl rfl rfl ?_
         refine sy_ldh one_22 rfl (Hp.blk hbx 3 _ rfl) rfl rfl ?_
         refine sy_len rfl (len_slice Tryz.underlying22 _ _ _) rfl rfl ?_
         refine sy_move rfl rfl rfl ?_
         refine sy_nil rfl ?_
         refine ny_next ?_
         refine cy_block ?_
         refine cy_loopK (ι := Nat × Value × Hp) [1, 51, 52] rfl (fun z => z.1 ≤ kids.length ∧ h1.Le z.2.2) (fun z => kids.length - z.1) (fun z => [(53, .int .i64 (z.1 : Int))]) (fun z => z.2.2) (fun z => [.blk b (.cells [.pointer (some ⟨b, 0, none⟩), z.2.1].toArray 53 (0, 0)), .row z.2.1 5 1 (xs ++ (⟨(nmL ts kids.length).toArray⟩ ++ ⟨#[40]⟩ : ByteArray).data.toList ++ (txts ((kids.take z.1).map GT.tm))).length (bvs (xs ++ (⟨(nmL ts kids.length).toArray⟩ ++ ⟨#[40]⟩ : ByteArray).data.toList ++ (txts ((kids.take z.1).map GT.tm))))]) (0, v49, h1) [0, 0] ⟨Nat.zero_le _, Hp.Le.refl _⟩ ⟨rfl, trivial⟩ rfl (by rw [show xs ++ (⟨(nmL ts kids.length).toArray⟩ ++ ⟨#[40]⟩ : ByteArray).data.toList ++ (txts ((kids.take (0, v49, h1).1).map GT.tm)) = xs ++ (⟨(nmL ts kids.length).toArray⟩ ++ ⟨#[40]⟩ : ByteArray).data.toList from by rw [List.take_zero, List.map_nil, txts_nil, List.append_nil]]; rfl) ?_
         rintro ⟨i, vz, hzz⟩ ⟨hI, hlez⟩
         simp only at hI hlez ⊢
         have hlz := hl.le hlez
         have hrz := hlz.rows
         have htz := ht.le hlez
         have hm0 := txts_mono kids i
         refine cy_seq ?_
         refine cy_region ?_
         refine sy_cmp rfl rfl rfl rfl rfl ?_
         refine sy_nil rfl ?_
         refine ny_next ?_
         refine cy_seq ?_
         refine cy_cond rfl (fun hc54 => ?_) (fun hc54 => ?_)
         · have hlti : i < kids.length := by have := of_decide_eq_true hc54; omega
           refine cy_skip ?_
           refine ny_next ?_
           refine cy_seq ?_
           refine cy_block ?_
           refine cy_seq ?_
           refine cy_region ?_
           refine sy_move rfl rfl rfl ?_
           refine sy_idxR (fc := GT.cells) (es := kids) els_22 rfl rfl hrz rfl (by omega) rfl rfl (fun e56 b56 o56 he56 hA56 hc56 => ?_)
           have hsu := txts_succ he56
           have hm1 := txts_mono kids (i + 1)
           have hm2 := congrArg List.length hsu
           simp only [List.length_append] at hm2
           refine sy_ldah (vs := GT.cells e56) agg_24 rfl rfl hc56 rfl rfl ?_
           refine sy_alloc zer_24 rfl rfl (fun b5 hb5 hM5 => ?_) hb0
           refine sy_assign rfl rfl rfl ?_
           refine sy_stl 0 sz_24 rfl rfl rfl rfl rfl rfl rfl rfl ?_
           refine sy_nil rfl ?_
           refine ny_next ?_
           refine cy_seq ?_
           refine cy_seq ?_
           refine cy_region ?_
           refine sy_move rfl rfl rfl ?_
           refine sy_cmp rfl rfl rfl rfl rfl ?_
           refine sy_nil rfl ?_
           refine ny_next ?_
           refine cy_cond rfl (fun hc59 => ?_) (fun hc59 => ?_)
           · have hi0 : ¬ i = 0 := by have := of_decide_eq_true hc59; omega
             rw [if_neg hi0, List.length_cons, List.length_nil] at hm2
             refine cy_region ?_
             refine sy_move rfl rfl rfl ?_
             refine sy_callbR1 [1, 1] call_31 rfl rfl rfl (writeString_c b _ _ _ _ _ (.inr rfl) (by first | omega | (simp only [ByteArray.size_append, bsz, ba_cat, bdl, dl1, List.length_append, List.length_cons, List.length_nil, sz1, sz2]; omega) | (simp [ByteArray.size_append, bsz, sz1, sz2]; done))) rfl rfl (fun v61 h61 H61 hx61 hle61 => ?_)
             obtain ⟨rfl, rfl⟩ := hx61
             refine sy_nil rfl ?_
             refine ny_next ?_
             refine cy_region ?_
             refine sy_ldar 2 agg_24 rfl rfl rfl rfl rfl ?_
             refine sy_move rfl rfl rfl ?_
             refine sy_callR1 [0, 0] call_30 rfl rfl (ih e56 (List.mem_of_getElem? he56) _ _ _ _ (hlz.at he56) (hf.at he56) htz (.inr rfl) (by first | omega | (simp only [ByteArray.size_append, bsz, ba_cat, bdl, dl1, List.length_append, List.length_cons, List.length_nil, sz1, sz2]; omega) | (simp [ByteArray.size_append, bsz, sz1, sz2]; done))) rfl rfl (fun v64 h64 H64 hx64 hle64 => ?_)
             subst hx64
             refine sy_nil rfl ?_
             refine ny_blockN ?_
             refine ny_next ?_
             refine cy_region ?_
             refine sy_addi (z := ((i + 1 : Nat) : Int)) rfl rfl (by omega) (by omega) (by omega) rfl rfl ?_
             refine sy_move rfl rfl rfl ?_
             refine sy_nil rfl ?_
             refine ny_roundK [1, 51, 52] (i + 1, v64, h64) [0, 0] ⟨(show i + 1 ≤ kids.length by omega), hlez.trans hle64⟩ (show kids.length - (i + 1) < kids.length - i by omega) rfl ⟨rfl, trivial⟩ rfl (by rw [show xs ++ (⟨(nmL ts kids.length).toArray⟩ ++ ⟨#[40]⟩ : ByteArray).data.toList ++ (txts ((kids.take (i + 1)).map GT.tm)) = xs ++ (⟨(nmL ts kids.length).toArray⟩ ++ ⟨#[40]⟩ : ByteArray).data.toList ++ (txts ((kids.take i).map GT.tm)) ++ (⟨#[44]⟩ : ByteArray).data.toList ++ txt e56.tm from by rw [hsu]; (first | (rw [if_neg (by omega)]; simp; done) | (rw [if_pos (by omega)]; simp; done))]; rfl)
           · have hi0 : i = 0 := by have := of_decide_eq_false hc59; omega
             rw [if_pos hi0, List.length_nil] at hm2
             refine cy_skip ?_
             refine ny_next ?_
             refine cy_region ?_
             refine sy_ldar 0 agg_24 rfl rfl rfl rfl rfl ?_
             refine sy_move rfl rfl rfl ?_
             refine sy_callR1 [1, 1] call_30 rfl rfl (ih e56 (List.mem_of_getElem? he56) _ _ _ _ (hlz.at he56) (hf.at he56) htz (.inr rfl) (by first | omega | (simp only [ByteArray.size_append, bsz, ba_cat, bdl, dl1, List.length_append, List.length_cons, List.length_nil, sz1, sz2]; omega) | (simp [ByteArray.size_append, bsz, sz1, sz2]; done))) rfl rfl (fun v64 h64 H64 hx64 hle64 => ?_)
             subst hx64
             refine sy_nil rfl ?_
             refine ny_blockN ?_
             refine ny_next ?_
             refine cy_region ?_
             refine sy_addi (z := ((i + 1 : Nat) : Int)) rfl rfl (by omega) (by omega) (by omega) rfl rfl ?_
             refine sy_move rfl rfl rfl ?_
             refine sy_nil rfl ?_
             refine ny_roundK [1, 51, 52] (i + 1, v64, h64) [0, 0] ⟨(show i + 1 ≤ kids.length by omega), hlez.trans hle64⟩ (show kids.length - (i + 1) < kids.length - i by omega) rfl ⟨rfl, trivial⟩ rfl (by rw [show xs ++ (⟨(nmL ts kids.length).toArray⟩ ++ ⟨#[40]⟩ : ByteArray).data.toList ++ (txts ((kids.take (i + 1)).map GT.tm)) = xs ++ (⟨(nmL ts kids.length).toArray⟩ ++ ⟨#[40]⟩ : ByteArray).data.toList ++ (txts ((kids.take i).map GT.tm)) ++ txt e56.tm from by rw [hsu]; (first | (rw [if_neg (by omega)]; simp; done) | (rw [if_pos (by omega)]; simp; done))]; rfl)
         · have hie : i = kids.length := by have := of_decide_eq_false hc54; omega
           subst hie
           refine cy_exit ?_
           refine ny_thenE ?_
           refine ny_thenE ?_
           refine ny_blockX ?_
           refine ny_next ?_
           have htk : kids.take kids.length = kids := List.take_length
           rw [htk] at hm0 ⊢
           refine cy_region ?_
           refine sy_move rfl rfl rfl ?_
           refine sy_callbR1 [0, 0] call_31 rfl rfl rfl (writeString_c b _ _ _ _ _ (.inr rfl) (by first | omega | (simp only [ByteArray.size_append, bsz, ba_cat, bdl, dl1, List.length_append, List.length_cons, List.length_nil, sz1, sz2]; omega) | (simp [ByteArray.size_append, bsz, sz1, sz2]; done))) rfl rfl (fun v67 h67 H67 hx67 hle67 => ?_)
           obtain ⟨rfl, rfl⟩ := hx67
           refine sy_nil rfl ?_
           refine ny_blockN ?_
           have hE : xs ++ (⟨(nmL ts kids.length).toArray⟩ ++ ⟨#[40]⟩ : ByteArray).data.toList ++ txts (kids.map GT.tm) ++ (⟨#[41]⟩ : ByteArray).data.toList = xs ++ txt (GT.mk tk tn ts tA tc kids).tm := by first | (rw [htx]; done) | (rw [htx]; simp; done)
           refine ny_fin (res0 rfl) (fun w hs => ⟨v67, _, _, rfl, ?_, hs⟩)
           rw [← hE]
           rfl
     · have hk3 : ¬ tk = 3 := by simpa using hg31
       refine sy_skip rfl rfl rfl ?_
       refine sy_skip rfl rfl rfl ?_
       refine sy_skip rfl rfl rfl ?_
       refine sy_skip rfl rfl rfl ?_
       refine sy_pickF rfl rfl rfl rfl ?_
       refine sy_assign rfl rfl rfl ?_
       refine sy_nil rfl ?_
       refine ny_next ?_
       refine cy_condF rfl ?_
       refine cy_seq ?_
       refine cy_region ?_
       refine sy_field fld_24_0 rfl rfl rfl ?_
       refine sy_ldh one_3 rfl (Hp.blk hbx 0 _ rfl) rfl rfl ?_
       refine sy_cmp rfl rfl rfl rfl rfl ?_
       refine sy_assign rfl rfl rfl ?_
       refine sy_setF (d := 41) rfl rfl hg31 ?_
       refine sy_nil rfl ?_
       refine ny_next ?_
       refine cy_condF rfl ?_
       refine cy_seq ?_
       refine cy_region ?_
       refine sy_field fld_24_0 rfl rfl rfl ?_
       refine sy_ldh one_3 rfl (Hp.blk hbx 0 _ rfl) rfl rfl ?_
       refine sy_cmp rfl rfl rfl rfl rfl ?_
       refine sy_move rfl rfl rfl ?_
       refine sy_cond (d := 72) _ rfl rfl (fun hg72 => ?_) (fun hg72 => ?_)
       · have hk4 : tk = 4 := by simpa using hg72
         refine sy_field fld_24_3 rfl rfl rfl ?_
         refine sy_ldh one_22 rfl (Hp.blk hbx 3 _ rfl) rfl rfl ?_
         refine sy_len rfl (len_slice Tryz.underlying22 _ _ _) rfl rfl ?_
         refine sy_cmp rfl rfl rfl rfl rfl ?_
         refine sy_pickT rfl rfl rfl rfl ?_
         refine sy_assign rfl rfl rfl ?_
         refine sy_nil rfl ?_
         refine ny_next ?_
         refine cy_cond rfl (fun hc68 => ?_) (fun hc68 => ?_)
         · have hk0 : kids.length = 1 := by have := eq_of_beq hc68; omega
           have htx : txt (GT.mk tk tn ts tA tc kids).tm = [64, 40] ++ txts (kids.map GT.tm) ++ [44] ++ Lib.itoa tn ++ [41] := by rw [GT.tm_mk]; exact txt_seal hk4 (by rw [List.length_map]; exact hk0)
           rw [htx] at hz
           simp only [List.length_append, List.length_cons, List.length_nil] at hz
           refine cy_seq ?_
           refine cy_region ?_
           refine sy_move rfl rfl rfl ?_
           refine sy_callbR1 [0, 0] call_31 rfl rfl rfl (writeString_c b _ _ _ _ _ hp (by first | omega | (simp only [ByteArray.size_append, bsz, ba_cat, bdl, dl1, List.length_append, List.length_cons, List.length_nil, sz1, sz2]; omega) | (simp [ByteArray.size_append, bsz, sz1, sz2]; done))) rfl rfl (fun v79 h79 H79 hx79 hle79 => ?_)
           obtain ⟨rfl, rfl⟩ := hx79
           refine sy_nil rfl ?_
           refine ny_next ?_
           refine cy_seq ?_
           refine cy_region ?_
           refine sy_field fld_24_3 rfl rfl rfl ?_
           refine sy_ldh one_22 rfl (Hp.blk hbx 3 _ rfl) rfl rfl ?_
           refine sy_idxR (i := 0) (fc := GT.cells) (es := kids) els_22 rfl rfl hr rfl (by omega) rfl rfl (fun e82 b82 o82 he82 hA82 hc82 => ?_)
           have hke : kids.map GT.tm = [e82.tm] := by
            match kids, hk0, he82 with
            | [x], _, he => have := Option.some.inj he; rw [this]; rfl
           rw [hke, txts_one] at htx hz
           refine sy_ldah (vs := GT.cells e82) agg_24 rfl rfl hc82 rfl rfl ?_
           refine sy_move rfl rfl rfl ?_
           refine sy_callR1 [0, 0] call_30 rfl rfl (ih e82 (List.mem_of_getElem? he82) _ _ _ _ (hl.at he82) (hf.at he82) ht (.inr rfl) (by first | omega | (simp only [ByteArray.size_append, bsz, ba_cat, bdl, dl1, List.length_append, List.length_cons, List.length_nil, sz1, sz2]; omega) | (simp [ByteArray.size_append, bsz, sz1, sz2]; done))) rfl rfl (fun v85 h85 H85 hx85 hle85 => ?_)
           subst hx85
           replace hbx := hle85 _ _ hbx
           replace ht := ht.le hle85
           refine sy_nil rfl ?_
           refine ny_next ?_
           refine cy_region ?_
           refine sy_move rfl rfl rfl ?_
           refine sy_field fld_24_1 rfl rfl rfl ?_
           refine sy_ldh one_2 rfl (Hp.blk hbx 1 _ rfl) rfl rfl ?_
           refine sy_call rfl call_46 rfl (fig_c tn _ hf.nums.2.1.1 hf.nums.2.1.2 ht) rfl rfl ?_
           refine sy_cat rfl rfl (by first | omega | (simp only [ByteArray.size_append, bsz, ba_cat, bdl, dl1, List.length_append, List.length_cons, List.length_nil, sz1, sz2]; omega) | (simp [ByteArray.size_append, bsz, sz1, sz2]; done)) rfl rfl ?_
           refine sy_cat rfl rfl (by first | omega | (simp only [ByteArray.size_append, bsz, ba_cat, bdl, dl1, List.length_append, List.length_cons, List.length_nil, sz1, sz2]; omega) | (simp [ByteArray.size_append, bsz, sz1, sz2]; done)) rfl rfl ?_
           refine sy_callbR1 [0, 0] call_31 rfl rfl rfl (writeString_c b _ _ _ _ _ (.inr rfl) (by first | omega | (simp only [ByteArray.size_append, bsz, ba_cat, bdl, dl1, List.length_append, List.length_cons, List.length_nil, sz1, sz2]; omega) | (simp [ByteArray.size_append, bsz, sz1, sz2]; done))) rfl rfl (fun v92 h92 H92 hx92 hle92 => ?_)
           obtain ⟨rfl, rfl⟩ := hx92
           refine sy_nil rfl ?_
           refine ny_blockN ?_
           have hE : xs ++ (⟨#[64, 40]⟩ : ByteArray).data.toList ++ txt e82.tm ++ ((⟨#[44]⟩ : ByteArray) ++ ⟨(Lib.itoa tn).toArray⟩ ++ ⟨#[41]⟩).data.toList = xs ++ txt (GT.mk tk tn ts tA tc kids).tm := by first | (rw [htx]; done) | (rw [htx]; simp; done)
           refine ny_fin (res0 rfl) (fun w hs => ⟨v92, _, _, rfl, ?_, hs⟩)
           rw [← hE]
           rfl
         · have hk0 : ¬ kids.length = 1 := by
            intro h9
            rw [h9] at hc68
            simp at hc68
           have htx : txt (GT.mk tk tn ts tA tc kids).tm = [63] := by rw [GT.tm_mk]; exact txt_else hk1 hk2 hk3 (fun h9 => hk0 (by have := h9.2; rwa [List.length_map] at this))
           rw [htx] at hz
           refine cy_region ?_
           refine sy_move rfl rfl rfl ?_
           refine sy_callbR1 [0, 0] call_31 rfl rfl rfl (writeString_c b _ _ _ _ _ hp (by first | omega | (simp only [ByteArray.size_append, bsz, ba_cat, bdl, dl1, List.length_append, List.length_cons, List.length_nil, sz1, sz2]; omega) | (simp [ByteArray.size_append, bsz, sz1, sz2]; done))) rfl rfl (fun v7 h7 H7 hx7 hle7 => ?_)
           obtain ⟨rfl, rfl⟩ := hx7
           refine sy_nil rfl ?_
           refine ny_blockN ?_
           have hE : xs ++ (⟨#[63]⟩ : ByteArray).data.toList = xs ++ txt (GT.mk tk tn ts tA tc kids).tm := by first | (rw [htx]; done) | (rw [htx]; simp; done)
           refine ny_fin (res0 rfl) (fun w hs => ⟨v7, _, _, rfl, ?_, hs⟩)
           rw [← hE]
           rfl
       · have hk4 : ¬ tk = 4 := by simpa using hg72
         have htx : txt (GT.mk tk tn ts tA tc kids).tm = [63] := by rw [GT.tm_mk]; exact txt_else hk1 hk2 hk3 (fun h9 => hk4 h9.1)
         rw [htx] at hz
         refine sy_skip rfl rfl rfl ?_
         refine sy_skip rfl rfl rfl ?_
         refine sy_skip rfl rfl rfl ?_
         refine sy_skip rfl rfl rfl ?_
         refine sy_pickF rfl rfl rfl rfl ?_
         refine sy_assign rfl rfl rfl ?_
         refine sy_nil rfl ?_
         refine ny_next ?_
         refine cy_condF rfl ?_
         refine cy_region ?_
         refine sy_move rfl rfl rfl ?_
         refine sy_callbR1 [0, 0] call_31 rfl rfl rfl (writeString_c b _ _ _ _ _ hp (by first | omega | (simp only [ByteArray.size_append, bsz, ba_cat, bdl, dl1, List.length_append, List.length_cons, List.length_nil, sz1, sz2]; omega) | (simp [ByteArray.size_append, bsz, sz1, sz2]; done))) rfl rfl (fun v7 h7 H7 hx7 hle7 => ?_)
         obtain ⟨rfl, rfl⟩ := hx7
         refine sy_nil rfl ?_
         refine ny_blockN ?_
         have hE : xs ++ (⟨#[63]⟩ : ByteArray).data.toList = xs ++ txt (GT.mk tk tn ts tA tc kids).tm := by first | (rw [htx]; done) | (rw [htx]; simp; done)
         refine ny_fin (res0 rfl) (fun w hs => ⟨v7, _, _, rfl, ?_, hs⟩)
         rw [← hE]
         rfl
end Go.Proofs.YtanhhihechakhaaGreatDoor
set_option linter.unusedVariables false
set_option linter.unusedSimpArgs false
namespace Go.Proofs.YtanhhihechakhaaGreatDoor.E
open Go.RowKit
section
variable {m : Md} {P : Program} {ops : Array Oper} {Q : Exit → Act → World → Prop} {n : Nat} {D : List Deferred} {w0 : World} {M : List Nat} {h0 : Hp}
variable {f : Tab} {h : Hp} {H : List Res} {rest : List Oper} {o : Oper}
theorem rescS {fn : Func} {t ty e l : Nat} {fr : Nat × Nat} {b : Nat} {cs vs : List Value} {H1 : List Res} (i : Nat) (hr : fn.results = #[.cell t ty]) (hty : aggB P ty l = true) (hv : f.get t = some (.pointer (some ⟨b, 0, none⟩)))
    (hp : pickR i H = some (.blk b (.cells cs.toArray e fr), H1)) (hc : sliceO 0 l cs = some vs) :
    ∀ a w, Holds n [] f a → St w0 M h0 h H w → (results fn a.tmps).run P w = .ok (.agg vs.toArray) w := fun a w ha hs => by
 have h1 := ha.get t _ hv
 have hb : w.heap[b]? = some (.cells cs.toArray e fr) := (hs.swap (pickR_perm hp)).ok _ (List.mem_cons_self)
 obtain ⟨h5, h6⟩ := agg_spec hty w
 obtain ⟨h7, h8⟩ := sliceO_spec hc
 subst h7
 have h3 := run_loadCells_list (P := P) w ⟨b, 0, none⟩ vs (fun j u hj => by
  rw [Addr.add_at]
  have := h8 j u hj
  simp only [Nat.zero_add] at this ⊢
  simp [World.cell?, hb, this])
 simp [results, hr, h1, asAddr, loadVar, h5, h6, h3]
end
end Go.Proofs.YtanhhihechakhaaGreatDoor.E
set_option linter.unusedVariables false
set_option linter.unusedSimpArgs false
namespace Go.Proofs.YtanhhihechakhaaGreatDoor
open Go.RowKit Go.Proofs.YtanhhihechakhaaGreatDoor.E Go.Proofs.YtanhhihechakhaaGreatDoor.ReplP Go.Proofs.YtanhhihechakhaaGreatDoor.TokP Go.Proofs.YtanhhihechakhaaGreatDoor.TermP Go.Proofs.YtanhhihechakhaaGreatDoor.WrP
set_option maxRecDepth 100000 in
theorem text_c (t : GT) (h : Hp) (hl : Lies h t) (hf : Fits t) (ht : Tab10 h) (hz : (txt t.tm).length ≤ 70368744177600) : C0 Tryz.prog 13 [.agg (GT.cells t).toArray] h (.string ⟨(txt t.tm).toArray⟩) := by
 show C0 Tryz.prog 13 [.agg #[.int .i64 t.k, .int .i64 t.n, .string t.s, .slice t.A t.kids.length t.c]] h _
 refine enter0 Tryz.func13 rfl rfl rfl (fun w => ?_)
 refine cy_seq ?_
 refine cy_region ?_
 refine sy_box rfl rfl rfl rfl (fun b1 hb1 hM1 => ?_) (by simp)
 refine sy_assign rfl rfl rfl ?_
 refine sy_nil rfl ?_
 refine ny_next ?_
 refine cy_seq ?_
 refine cy_region ?_
 refine sy_alloc zer_53 rfl rfl (fun b3 hb3 hM3 => ?_) (by simp)
 refine sy_nil rfl ?_
 refine ny_next ?_
 refine cy_seq ?_
 refine cy_nilRow 5 1 ?_
 refine cy_region ?_
 refine sy_ldar 2 agg_24 rfl rfl rfl rfl rfl ?_
 refine sy_bind (s := 0) rfl rfl rfl rfl ?_
 refine sy_callR1 [1, 0] call_30 rfl rfl (write_c b3 t _ _ _ [] hl hf ht (.inl rfl) (by rw [List.length_nil, Nat.zero_add]; exact hz)) rfl rfl (fun v6 h6 H6 hx6 hle6 => ?_)
 subst hx6
 refine sy_frz 0 rfl (by simp) (fun h7 hle7 hb7 => ?_)
 refine sy_nil rfl ?_
 refine ny_next ?_
 refine cy_seq ?_
 refine cy_region ?_
 have hne : txt t.tm ≠ [] := txt_ne t.tm
 refine sy_callR1 [0] call_32 rfl rfl (string_c b3 _ _ _ _ hb7 (by rw [List.nil_append]; exact hne)) rfl rfl (fun v8 h8 H8 hx8 hle8 => ?_)
 obtain ⟨rfl, rfl⟩ := hx8
 refine sy_assign rfl rfl rfl ?_
 refine sy_nil rfl ?_
 refine ny_next ?_
 refine cy_ret ?_
 refine ny_finR (res1 rfl rfl) (fun w hs => ⟨?_, hs.frm⟩)
 rw [List.nil_append]
set_option maxRecDepth 100000 in
theorem num_c (n : Int) (h : Hp) : C0 Tryz.prog 24 [.int .i64 n] h (.agg (GT.cells (GT.mk 2 n ⟨#[]⟩ none 0 [])).toArray) := by
 refine enter0 Tryz.func24 rfl rfl rfl (fun w => ?_)
 refine cy_seq ?_
 refine cy_region ?_
 refine sy_alloc zer_24 rfl rfl (fun b2 hb2 hM2 => ?_) (by simp)
 refine sy_nil rfl ?_
 refine ny_next ?_
 refine cy_seq ?_
 refine cy_region ?_
 refine sy_move rfl rfl rfl ?_
 refine sy_build rfl (fun w => bld_24_0x1 w) rfl rfl ?_
 first | refine sy_stl 0 sz_24 rfl rfl rfl rfl rfl rfl rfl rfl ?_
 refine sy_nil rfl ?_
 refine ny_next ?_
 refine cy_ret ?_
 refine ny_finR (rescS 0 rfl agg_24 rfl rfl rfl) (fun w hs => ⟨rfl, hs.frm⟩)
set_option maxRecDepth 100000 in
theorem let_c (n : Int) (h : Hp) : C0 Tryz.prog 25 [.int .i64 n] h (.agg (GT.cells (GT.mk 1 n ⟨#[]⟩ none 0 [])).toArray) := by
 refine enter0 Tryz.func25 rfl rfl rfl (fun w => ?_)
 refine cy_seq ?_
 refine cy_region ?_
 refine sy_alloc zer_24 rfl rfl (fun b2 hb2 hM2 => ?_) (by simp)
 refine sy_nil rfl ?_
 refine ny_next ?_
 refine cy_seq ?_
 refine cy_region ?_
 refine sy_move rfl rfl rfl ?_
 refine sy_build rfl (fun w => bld_24_0x1 w) rfl rfl ?_
 first | refine sy_stl 0 sz_24 rfl rfl rfl rfl rfl rfl rfl rfl ?_
 refine sy_nil rfl ?_
 refine ny_next ?_
 refine cy_ret ?_
 refine ny_finR (rescS 0 rfl agg_24 rfl rfl rfl) (fun w hs => ⟨rfl, hs.frm⟩)
set_option maxRecDepth 100000 in
theorem clone0_c (h : Hp) : C0 Tryz.prog 43 [.slice none 0 0] h (.slice none 0 0) := by
 refine enter0 Tryz.func43 rfl rfl rfl (fun w => ?_)
 refine cy_seq ?_
 refine cy_region ?_
 refine sy_assign rfl rfl rfl ?_
 refine sy_nil rfl ?_
 refine ny_next ?_
 refine cy_seq ?_
 refine cy_seq ?_
 refine cy_region ?_
 refine sy_move rfl rfl rfl ?_
 refine sy_eqsl (b := true) Tryz.underlying22 rfl rfl rfl rfl ?_
 refine sy_setT (d := 4) rfl rfl rfl ?_
 refine sy_nil rfl ?_
 refine ny_next ?_
 refine cy_condT rfl ?_
 refine cy_seq ?_
 refine cy_region ?_
 refine sy_assign rfl rfl rfl ?_
 refine sy_nil rfl ?_
 refine ny_next ?_
 refine cy_ret ?_
 refine ny_thenR ?_
 refine ny_finR (res1 rfl rfl) (fun w hs => ⟨?_, hs.frm⟩)
 rfl
set_option maxRecDepth 100000 in
theorem make0_c (s : ByteArray) (h : Hp) : C0 Tryz.prog 22 [.string s, .slice none 0 0] h (.agg (GT.cells (GT.mk 3 0 s none 0 [])).toArray) := by
 refine enter0 Tryz.func22 rfl rfl rfl (fun w => ?_)
 refine cy_seq ?_
 refine cy_region ?_
 refine sy_alloc zer_24 rfl rfl (fun b4 hb4 hM4 => ?_) (by simp)
 refine sy_nil rfl ?_
 refine ny_next ?_
 refine cy_seq ?_
 refine cy_region ?_
 refine sy_move rfl rfl rfl ?_
 refine sy_move rfl rfl rfl ?_
 refine sy_call rfl call_43 rfl (clone0_c _) rfl rfl ?_
 refine sy_build rfl (fun w => bld_24_0x2x3 w) rfl rfl ?_
 first | refine sy_stl 0 sz_24 rfl rfl rfl rfl rfl rfl rfl rfl ?_
 refine sy_nil rfl ?_
 refine ny_next ?_
 refine cy_ret ?_
 refine ny_finR (rescS 0 rfl agg_24 rfl rfl rfl) (fun w hs => ⟨rfl, hs.frm⟩)
set_option maxRecDepth 100000 in
theorem atom_c (s : ByteArray) (h : Hp) : C0 Tryz.prog 23 [.string s] h (.agg (GT.cells (GT.mk 3 0 s none 0 [])).toArray) := by
 refine enter0 Tryz.func23 rfl rfl rfl (fun w => ?_)
 refine cy_seq ?_
 refine cy_region ?_
 refine sy_alloc zer_24 rfl rfl (fun b2 hb2 hM2 => ?_) (by simp)
 refine sy_nil rfl ?_
 refine ny_next ?_
 refine cy_seq ?_
 refine cy_region ?_
 refine sy_move rfl rfl rfl ?_
 refine sy_call rfl call_22 rfl (make0_c s _) rfl rfl ?_
 first | refine sy_stl 0 sz_24 rfl rfl rfl rfl rfl rfl rfl rfl ?_
 refine sy_nil rfl ?_
 refine ny_next ?_
 refine cy_ret ?_
 refine ny_finR (rescS 0 rfl agg_24 rfl rfl rfl) (fun w hs => ⟨rfl, hs.frm⟩)
set_option maxRecDepth 100000 in
theorem clone_c (A : Option Addr) (c : Nat) (kids : List GT) (h : Hp) (hA : A.isNone = false) (hr : RowsAt h A 4 (kids.map GT.cells)) (hb : kids.length ≤ 1048576) : CX Tryz.prog 43 [.slice A kids.length c] h (fun x : Option Addr × Nat => .slice x.1 kids.length x.2) (fun x h' => RowsAt h' x.1 4 (kids.map GT.cells) ∧ kids.length ≤ x.2) := by
 refine enterX Tryz.func43 rfl rfl rfl (fun w => ?_)
 refine cy_seq ?_
 refine cy_region ?_
 refine sy_assign rfl rfl rfl ?_
 refine sy_nil rfl ?_
 refine ny_next ?_
 refine cy_seq ?_
 refine cy_seq ?_
 refine cy_region ?_
 refine sy_move rfl rfl rfl ?_
 refine sy_eqsl (b := false) Tryz.underlying22 rfl (by rw [hA]) rfl rfl ?_
 refine sy_setF (d := 4) rfl rfl rfl ?_
 refine sy_nil rfl ?_
 refine ny_next ?_
 refine cy_condF rfl ?_
 refine cy_skip ?_
 refine ny_next ?_
 refine cy_seq ?_
 refine cy_region ?_
 refine sy_buildSlice (cs := []) rfl (fun w => bsl_22_0_ w) rfl rfl (fun b5 hb5 hM5 => ?_) (by simp)
 refine sy_asRow (l := 0) (sz := 4) (cs := []) 0 rfl rfl (Nat.zero_le _) ?_
 refine sy_move rfl rfl rfl ?_
 refine sy_appendh (news := (kids.map GT.cells).flatten) 0 row_22 (by decide) rfl rfl rfl (fun h9 => by rw [h9] at hA; cases hA) (by rw [flat_len (GT.cells_len _), List.length_map]) (hr.cells (by decide) (GT.cells_len _)) (GT.cells_ones _) (by omega) (by simp only [maxLen]; omega) rfl rfl (fun v7 => ?_)
 refine sy_frzRow 0 rfl (fun _ _ => by simp) (fun A7 c7 h7 hv7 hlc7 hcm7 _ hle7 hcell7 => ?_)
 rw [Nat.zero_add] at hv7 hlc7
 subst hv7
 rw [List.nil_append] at hcell7
 have hr7 : RowsAt h7 A7 4 (kids.map GT.cells) := rows_row (by decide) (GT.cells_len _) hcell7
 refine sy_assign rfl rfl rfl ?_
 refine sy_nil rfl ?_
 refine ny_next ?_
 refine cy_ret ?_
 exact ny_finR (res1 rfl rfl) (fun w hs => ⟨(A7, c7), h7, rfl, ⟨hr7, hlc7⟩, hs.toGrow⟩)
set_option maxRecDepth 100000 in
theorem make_c (s : ByteArray) (A : Option Addr) (c : Nat) (kids : List GT) (h : Hp) (hA : A.isNone = false) (hr : RowsAt h A 4 (kids.map GT.cells)) (hb : kids.length ≤ 1048576) : CX Tryz.prog 22 [.string s, .slice A kids.length c] h (fun x : Option Addr × Nat => .agg (GT.cells (GT.mk 3 0 s x.1 x.2 kids)).toArray) (fun x h' => RowsAt h' x.1 4 (kids.map GT.cells) ∧ kids.length ≤ x.2) := by
 refine enterX Tryz.func22 rfl rfl rfl (fun w => ?_)
 refine cy_seq ?_
 refine cy_region ?_
 refine sy_alloc zer_24 rfl rfl (fun b4 hb4 hM4 => ?_) (by simp)
 refine sy_nil rfl ?_
 refine ny_next ?_
 refine cy_seq ?_
 refine cy_region ?_
 refine sy_move rfl rfl rfl ?_
 refine sy_move rfl rfl rfl ?_
 refine sy_callx call_43 rfl (clone_c A c kids _ hA hr hb) rfl rfl (fun x7 h7 hx7 hle7 => ?_)
 obtain ⟨A7, c7⟩ := x7
 refine sy_build rfl (fun w => bld_24_0x2x3 w) rfl rfl ?_
 first | refine sy_stl 0 sz_24 rfl rfl rfl rfl rfl rfl rfl rfl ?_
 refine sy_nil rfl ?_
 refine ny_next ?_
 refine cy_ret ?_
 refine ny_finR (rescS 0 rfl agg_24 rfl rfl rfl) (fun w hs => ⟨(A7, c7), h7, rfl, hx7, hs.toGrow⟩)
end Go.Proofs.YtanhhihechakhaaGreatDoor
set_option linter.unusedVariables false
set_option linter.unusedSimpArgs false
namespace Go.Proofs.YtanhhihechakhaaGreatDoor.E
open Go.RowKit
theorem met_run {P : Program} {F t : Nat} {v recv r : Value} {name : String} {vs : Array Value} {w : World} (hm : (method (P.types.size + Made.depth) t v name).run P w = .ok (F, recv) w) (hr : (callFunc F (#[recv] ++ vs)).run P w = .ok (.value r) w) :
    (callMethod (.iface t v) name vs).run P w = .ok (.value r) w := by
 have hp : Sem.run P program w = .ok P w := rfl
 simp only [callMethod, Sem.run_bind, hp, Result.andThen_ok, hm, hr]
section
variable {m : Md} {P : Program} {ops : Array Oper} {Q : Exit → Act → World → Prop} {n : Nat} {D : List Deferred} {w0 : World} {M : List Nat} {h0 : Hp}
variable {f : Tab} {h : Hp} {H : List Res} {rest : List Oper} {o : Oper}
variable {d t s : Nat} {p : String} {af : Array Edge} {g : Option (Nat × Bool)} {F : Nat} {args : Array Operand} {tys : Array TypeId} {vs : List Value}
theorem sy_assert {x : Operand} {vx v : Value} {xT aT : TypeId} {ok : Bool} (hx : f.ev x = some vx) (hr : ∀ w, (Instr.typeAssert vx xT aT ok).run P w = .ok v w) (hw : gok ops f g = some true) (hn : Nat.blt d n = true)
    (k : Sy m P ops Q n D w0 M h0 rest ((d, v) :: f) h H) : Sy m P ops Q n D w0 M h0 (⟨some d, .typeAssert x xT aT ok, t, p, af, g⟩ :: rest) f h H :=
 sy_val hw rfl hn (fun a w ha _ => by simp [execOp, ha.ev hx, hr]) k
theorem sy_eqif {x y : Operand} {tx ty s2 : Nat} {vx vy : Value} {b : Bool} (hx : f.ev x = some (.iface tx vx)) (hy : f.ev y = some (.iface ty vy)) (hr : ∀ w, (binOp .eql s (.iface tx vx) (.iface ty vy)).run P w = .ok (.bool b) w) (hw : gok ops f g = some true) (hn : Nat.blt d n = true)
    (k : Sy m P ops Q n D w0 M h0 rest ((d, .bool b) :: f) h H) : Sy m P ops Q n D w0 M h0 (⟨some d, .binOp .eql s x y s2, t, p, af, g⟩ :: rest) f h H :=
 sy_val hw rfl hn (fun a w ha _ => by
  have hg : (eqGuard .eql s x y (.iface tx vx) (.iface ty vy)).run P w = .ok () w := by simp [eqGuard]
  simp [execOp, ha.ev hx, ha.ev hy, hg, hr]) k
theorem sy_exn {v : Nat → Value} {ob : Obj} (hx : f.evs args.toList = some vs) (hr : ∀ w, (callFunc F vs.toArray).run P w = .ok (.value (v w.heap.size)) (w.alloc ob)) (hw : gok ops f g = some true) (hn : Nat.blt d n = true)
    (k : ∀ b, w0.heap.size ≤ b → b ∉ M → Sy .txt P ops Q n D w0 M h0 rest ((d, v b) :: f) h (.blk b ob :: H)) (hM : ∀ x ∈ M, x < w0.heap.size) : Sy .txt P ops Q n D w0 M h0 (⟨some d, .call ⟨.value (.func F), args, tys⟩, t, p, af, g⟩ :: rest) f h H :=
 sy_op hw fun a w ha hs => by
  have h1 := map_evs ha hx
  have hrun : (execOp a.eval ⟨some d, .call ⟨.value (.func F), args, tys⟩, t, p, af, g⟩).run P w = .ok (.value (v w.heap.size)) (w.alloc ob) := by
   simp only [execOp, resolve, h1, Act.eval, Deferred.ofValue, Sem.run_bind, Sem.run_pure, Result.andThen_ok, invoke, Array.empty_append, Array.append_empty, hr w]
  unfold Oper.wp
  rw [hrun]
  exact k w.heap.size hs.frm.size (fun hx => by have := hM _ hx; have := hs.frm.size; omega) _ _ (ha.put d _ hn) (hs.alloc _)
theorem sy_exw2 {v old new : Value} {b off e : Nat} {cs cs' : List Value} {H1 : List Res} (i : Nat) (hx : f.evs args.toList = some vs) (hp : pickR i H = some (.blk b (.cells cs.toArray e (0, 0)), H1)) (ho : cs[off]? = some old) (hc : cs.set off new = cs')
    (hr : ∀ w, St w0 M h0 h H w → w.cell? ⟨b, off, none⟩ = some old → w.frozen? ⟨b, off, none⟩ = false → (callFunc F vs.toArray).run P w = .ok (.value v) (w.setCell ⟨b, off, none⟩ new)) (hw : gok ops f g = some true) (hn : Nat.blt d n = true)
    (k : Sy .txt P ops Q n D w0 M h0 rest ((d, v) :: f) h (.blk b (.cells cs'.toArray e (0, 0)) :: H1)) : Sy .txt P ops Q n D w0 M h0 (⟨some d, .call ⟨.value (.func F), args, tys⟩, t, p, af, g⟩ :: rest) f h H :=
 sy_op hw fun a w ha hs => by
  have hs' := hs.swap (pickR_perm hp)
  have hb : w.heap[b]? = some (.cells cs.toArray e (0, 0)) := hs'.ok _ (List.mem_cons_self)
  have hcell : w.cell? ⟨b, off, none⟩ = some old := by simp [World.cell?, hb, ho]
  have hfz : w.frozen? ⟨b, off, none⟩ = false := by simp [World.frozen?, hb]
  have h1 := map_evs ha hx
  have hrun : (execOp a.eval ⟨some d, .call ⟨.value (.func F), args, tys⟩, t, p, af, g⟩).run P w = .ok (.value v) (w.setCell ⟨b, off, none⟩ new) := by
   simp only [execOp, resolve, h1, Act.eval, Deferred.ofValue, Sem.run_bind, Sem.run_pure, Result.andThen_ok, invoke, Array.empty_append, Array.append_empty, hr w hs hcell hfz]
  unfold Oper.wp
  rw [hrun]
  refine k _ _ (ha.put d _ hn) (hs'.write (o' := .cells cs'.toArray e (0, 0)) ⟨rfl, rfl, rfl, by simp [World.setCell], fun j hj hm => heap_setCell_other w ⟨b, off, none⟩ j new (by simpa using hm)⟩ ?_)
  rw [heap_setCell_same w b off cs.toArray e new hb, ← hc]
  simp
theorem St.cellQ {b off e : Nat} {cs : List Value} {fr : Nat × Nat} {v : Value} {H1 : List Res} {w : World} (i : Nat) (hp : pickR i H = some (.blk b (.cells cs.toArray e fr), H1)) (hc : cs[off]? = some v) (hs : St w0 M h0 h H w) : w.cell? ⟨b, off, none⟩ = some v := by
 have h1 : w.heap[b]? = some (.cells cs.toArray e fr) := (hs.swap (pickR_perm hp)).ok _ (List.mem_cons_self)
 simp [World.cell?, h1, hc]
theorem sy_invq {recv : Operand} {name : String} {vr v : Value} (hr : f.ev recv = some vr) (hx : f.evs args.toList = some vs) (hmeth : ∀ w, (callMethod vr name vs.toArray).run P w = .ok (.value v) w) (hw : gok ops f g = some true) (hn : Nat.blt d n = true)
    (k : Sy m P ops Q n D w0 M h0 rest ((d, v) :: f) h H) : Sy m P ops Q n D w0 M h0 (⟨some d, .call ⟨.invoke recv name, args, tys⟩, t, p, af, g⟩ :: rest) f h H :=
 sy_val hw rfl hn (fun a w ha _ => by
  have h1 := map_evs ha hx
  have h2 : (#[vr] ++ vs.toArray)[0]? = some vr := by simp
  have h3 : (#[vr] ++ vs.toArray).extract 1 (#[vr] ++ vs.toArray).size = vs.toArray := by
   apply Array.ext'
   simp
  simp only [execOp, resolve, h1, ha.ev hr, Sem.run_bind, Sem.run_pure, Result.andThen_ok, invoke, h2, h3, hmeth]) k
end
end Go.Proofs.YtanhhihechakhaaGreatDoor.E
set_option linter.unusedVariables false
set_option linter.unusedSimpArgs false
namespace Go.Proofs.YtanhhihechakhaaGreatDoor
open Go.RowKit Go.Proofs.YtanhhihechakhaaGreatDoor.E Go.Proofs.YtanhhihechakhaaGreatDoor.ReplP Go.Proofs.YtanhhihechakhaaGreatDoor.TokP Go.Proofs.YtanhhihechakhaaGreatDoor.TermP Go.Proofs.YtanhhihechakhaaGreatDoor.WrP
set_option maxRecDepth 100000 in
theorem size_c (t : GT) : ∀ h, Lies h t → Fits t → C0 Tryz.prog 26 [.agg (GT.cells t).toArray] h (.int .i64 (sizeW t)) := by
 induction t using GT.ind
 rename_i tk tn ts tA tc kids ih
 intro h hl hf
 have hroom := hf.room
 show C0 Tryz.prog 26 [.agg #[.int .i64 tk, .int .i64 tn, .string ts, .slice tA kids.length tc]] h (.int .i64 (sizeW (GT.mk tk tn ts tA tc kids)))
 refine enter0 Tryz.func26 rfl rfl rfl (fun w => ?_)
 refine cy_seq ?_
 refine cy_region ?_
 refine sy_box rfl rfl rfl rfl (fun b1 hb1 hM1 => ?_) (by simp)
 refine sy_assign rfl rfl rfl ?_
 refine sy_nil rfl ?_
 refine ny_next ?_
 refine cy_seq ?_
 refine cy_frz 0 rfl (by simp) (fun h1 hle1 hbx => ?_)
 replace hl := hl.le hle1
 have hr := hl.rows
 refine cy_region ?_
 refine sy_assign rfl rfl rfl ?_
 refine sy_nil rfl ?_
 refine ny_next ?_
 refine cy_seq ?_
 refine cy_seq ?_
 refine cy_region ?_
 refine sy_assign rfl rfl rfl ?_
 refine sy_nil rfl ?_
 refine ny_next ?_
 refine cy_block ?_
 refine cy_loopK (ι := Nat) [1] rfl (fun i => i ≤ kids.length) (fun i => kids.length - i) (fun i => [(3, .int .i64 (sizesW 1 (kids.take i))), (4, .int .i64 (i : Int))]) (fun i => h1) (fun i => []) 0 [] (Nat.zero_le _) ⟨rfl, rfl, trivial⟩ rfl rfl ?_
 rintro i hI
 refine cy_seq ?_
 refine cy_seq ?_
 refine cy_region ?_
 refine sy_move rfl rfl rfl ?_
 refine sy_field fld_24_3 rfl rfl rfl ?_
 refine sy_ldh one_22 rfl (Hp.blk hbx 3 _ rfl) rfl rfl ?_
 refine sy_len rfl (len_slice Tryz.underlying22 _ _ _) rfl rfl ?_
 refine sy_cmp rfl rfl rfl rfl rfl ?_
 refine sy_nil rfl ?_
 refine ny_next ?_
 refine cy_cond rfl (fun hc9 => ?_) (fun hc9 => ?_)
 · have hlti : i < kids.length := by have := of_decide_eq_true hc9; omega
   refine cy_skip ?_
   refine ny_next ?_
   refine cy_seq ?_
   refine cy_block ?_
   refine cy_region ?_
   refine sy_move rfl rfl rfl ?_
   refine sy_field fld_24_3 rfl rfl rfl ?_
   refine sy_ldh one_22 rfl (Hp.blk hbx 3 _ rfl) rfl rfl ?_
   refine sy_move rfl rfl rfl ?_
   refine sy_idxR (fc := GT.cells) (es := kids) els_22 rfl rfl hr rfl (by omega) rfl rfl (fun e16 b16 o16 he16 hA16 hc16 => ?_)
   refine sy_ldah (vs := GT.cells e16) agg_24 rfl rfl hc16 rfl rfl ?_
   refine sy_call rfl call_26 rfl (ih e16 (List.mem_of_getElem? he16) _ (hl.at he16) (hf.at he16)) rfl rfl ?_
   refine sy_add rfl rfl rfl rfl ?_
   refine sy_assign rfl rfl rfl ?_
   refine sy_nil rfl ?_
   refine ny_blockN ?_
   refine ny_next ?_
   refine cy_region ?_
   refine sy_move rfl rfl rfl ?_
   refine sy_addi (z := ((i + 1 : Nat) : Int)) rfl rfl (by omega) (by omega) (by omega) rfl rfl ?_
   refine sy_assign rfl rfl rfl ?_
   refine sy_nil rfl ?_
   refine ny_roundK [1] (i + 1) [] (show i + 1 ≤ kids.length by omega) (show kids.length - (i + 1) < kids.length - i by omega) rfl ⟨congrArg (fun z => some (Value.int .i64 z)) (sizesW_succ he16), rfl, trivial⟩ rfl rfl
 · have hie : i = kids.length := by have := of_decide_eq_false hc9; omega
   subst hie
   refine cy_exit ?_
   refine ny_thenE ?_
   refine ny_thenE ?_
   refine ny_blockX ?_
   refine ny_next ?_
   refine cy_seq ?_
   refine cy_region ?_
   refine sy_move rfl rfl rfl ?_
   refine sy_assign rfl rfl rfl ?_
   refine sy_nil rfl ?_
   refine ny_next ?_
   refine cy_ret ?_
   refine ny_finR (res1 rfl rfl) (fun w hs => ⟨?_, hs.frm⟩)
   rw [sizesW_all]
set_option maxRecDepth 100000 in
theorem few_c (t : GT) (h : Hp) (hl : Lies h t) (hf : Fits t) : C0 Tryz.prog 10 [.agg (GT.cells t).toArray] h (.bool (decide (sizeW t ≤ 1000))) := by
 show C0 Tryz.prog 10 [.agg #[.int .i64 t.k, .int .i64 t.n, .string t.s, .slice t.A t.kids.length t.c]] h _
 refine enter0 Tryz.func10 rfl rfl rfl (fun w => ?_)
 refine cy_seq ?_
 refine cy_region ?_
 refine sy_box rfl rfl rfl rfl (fun b1 hb1 hM1 => ?_) (by simp)
 refine sy_assign rfl rfl rfl ?_
 refine sy_nil rfl ?_
 refine ny_next ?_
 refine cy_seq ?_
 refine cy_region ?_
 refine sy_ldar 0 agg_24 rfl rfl rfl rfl rfl ?_
 refine sy_call rfl call_26 rfl (size_c t _ hl hf) rfl rfl ?_
 refine sy_cmp rfl rfl rfl rfl rfl ?_
 refine sy_assign rfl rfl rfl ?_
 refine sy_nil rfl ?_
 refine ny_next ?_
 refine cy_ret ?_
 refine ny_finR (res1 rfl rfl) (fun w hs => ⟨?_, hs.frm⟩)
 rfl
end Go.Proofs.YtanhhihechakhaaGreatDoor
set_option linter.unusedVariables false
set_option linter.unusedSimpArgs false
namespace Go.Proofs.YtanhhihechakhaaGreatDoor.WrP
open Go.RowKit Go.Proofs.YtanhhihechakhaaGreatDoor.E Go.Proofs.YtanhhihechakhaaGreatDoor.ReplP Go.Proofs.YtanhhihechakhaaGreatDoor.TokP Go.Proofs.YtanhhihechakhaaGreatDoor.TermP
def RB (ns : List ByteArray) (vs : List Tm) : List ByteArray := (rowsA ns vs).map fun r => ⟨r.toArray⟩
def strC (s : ByteArray) : List Value := [.string s]
theorem strC_len (l : List ByteArray) : ∀ c ∈ l.map strC, c.length = 1 := fun c hc => by
 obtain ⟨t, _, rfl⟩ := List.mem_map.1 hc
 rfl
theorem strC_snoc (l : List ByteArray) (s : ByteArray) : ((l ++ [s]).map strC).flatten = (l.map strC).flatten ++ [.string s] := by
 rw [List.map_append, List.flatten_append]
 simp [strC]
def lenA (ns : List ByteArray) : Nat := (ns.map fun s => s.size + 5).sum
def lenV (vs : List GT) : Nat := (vs.map fun t => (txt t.tm).length).sum
theorem sum_mem {α : Type} {f : α → Nat} : ∀ {l : List α} {i : Nat} {x : α}, l[i]? = some x → f x ≤ (l.map f).sum
 | [], i, x, h => by simp at h
 | y :: l, 0, x, h => by
  simp only [List.getElem?_cons_zero, Option.some.injEq] at h
  subst h
  rw [List.map_cons, List.sum_cons]
  omega
 | y :: l, i + 1, x, h => by
  rw [List.map_cons, List.sum_cons]
  have := sum_mem (f := f) (l := l) (i := i) (by simpa using h)
  omega
theorem lenA_at {ns : List ByteArray} {i : Nat} {n : ByteArray} (h : ns[i]? = some n) : n.size + 5 ≤ lenA ns := sum_mem (f := fun s : ByteArray => s.size + 5) h
theorem lenV_at {vs : List GT} {i : Nat} {t : GT} (h : vs[i]? = some t) : (txt t.tm).length ≤ lenV vs := sum_mem (f := fun t : GT => (txt t.tm).length) h
theorem joinL_len : ∀ r : List (List UInt8), (joinL r).length ≤ (r.map fun x => x.length + 2).sum
 | [] => Nat.zero_le _
 | x :: r => by
  unfold joinL
  rw [List.map_cons, List.sum_cons, List.length_append]
  have : (r.flatMap fun y => [44, 32] ++ y).length = (r.map fun x => x.length + 2).sum := by
   induction r with
   | nil => rfl
   | cons y r ih =>
    rw [List.flatMap_cons, List.length_append, ih, List.map_cons, List.sum_cons]
    simp only [List.length_append, List.length_cons, List.length_nil]
    omega
  omega
theorem rowsA_sum : ∀ (ns : List ByteArray) (vs : List GT), ((rowsA ns (vs.map GT.tm)).map fun x => x.length + 2).sum ≤ lenA ns + lenV vs
 | [], vs => by simp [rowsA]
 | n :: ns, [] => by simp [rowsA]
 | n :: ns, v :: vs => by
  have ih := rowsA_sum ns vs
  have e1 : lenA (n :: ns) = n.size + 5 + lenA ns := by unfold lenA; rw [List.map_cons, List.sum_cons]
  have e2 : lenV (v :: vs) = (txt v.tm).length + lenV vs := by unfold lenV; rw [List.map_cons, List.sum_cons]
  have e3 : n.data.toList.length = n.size := rfl
  rw [List.map_cons]
  simp only [rowsA]
  split
  · omega
  · rw [List.map_cons, List.sum_cons]
    simp only [List.length_append, List.length_cons, List.length_nil]
    omega
theorem joinA_len (ns : List ByteArray) (vs : List GT) : (joinL (rowsA ns (vs.map GT.tm))).length ≤ lenA ns + lenV vs := Nat.le_trans (joinL_len _) (rowsA_sum ns vs)
theorem join_eq (r : List (List UInt8)) : Lib.join r [44, 32] = joinL r := by
 cases r with
 | nil => rfl
 | cons x r =>
  rw [Lib.join_cons]
  show x ++ Lib.joinTail [44, 32] r = x ++ (r.flatMap fun y => [44, 32] ++ y)
  unfold Lib.joinTail
  rw [List.flatMap_def]
theorem RB_join (ns : List ByteArray) (vs : List Tm) : Lib.join ((RB ns vs).map (·.data.toList)) [44, 32] = joinL (rowsA ns vs) := by
 unfold RB
 rw [List.map_map, join_eq]
 congr 1
 induction rowsA ns vs with
 | nil => rfl
 | cons x r ih => rw [List.map_cons, ih]; rfl
theorem RB_succ {ns : List ByteArray} {vs : List GT} {i : Nat} {n : ByteArray} {v : GT} (h1 : ns[i]? = some n) (h2 : vs[i]? = some v) (hh : hidB n = false) : RB (ns.take (i + 1)) (vs.map GT.tm) = RB (ns.take i) (vs.map GT.tm) ++ [⟨(n.data.toList ++ [32, 61, 32] ++ txt v.tm).toArray⟩] := by
 unfold RB
 rw [rowsA_succ ns (vs.map GT.tm) i n v.tm h1 (by rw [List.getElem?_map, h2]; rfl), hh, List.map_append]
 rfl
theorem rowsA_hid {ns : List ByteArray} {vs : List GT} {i : Nat} {n : ByteArray} (h1 : ns[i]? = some n) (hh : hidB n = true ∨ vs.length ≤ i) : rowsA (ns.take (i + 1)) (vs.map GT.tm) = rowsA (ns.take i) (vs.map GT.tm) := by
 by_cases hl : vs.length ≤ i
 · rw [rowsA_more ns _ (i + 1) (by rw [List.length_map]; omega), rowsA_more ns _ i (by rw [List.length_map]; omega)]
 · have hv : vs[i]? = some (vs[i]'(by omega)) := List.getElem?_eq_getElem _
   rcases hh with hh | hh
   · rw [rowsA_succ ns (vs.map GT.tm) i n _ h1 (by rw [List.getElem?_map, hv]; rfl), hh, if_pos rfl, List.append_nil]
   · exact absurd hh hl
theorem RB_hid {ns : List ByteArray} {vs : List GT} {i : Nat} {n : ByteArray} (h1 : ns[i]? = some n) (hh : hidB n = true ∨ vs.length ≤ i) : RB (ns.take (i + 1)) (vs.map GT.tm) = RB (ns.take i) (vs.map GT.tm) := by unfold RB; rw [rowsA_hid h1 hh]
theorem rowsA_le : ∀ (ns : List ByteArray) (vs : List Tm), (rowsA ns vs).length ≤ ns.length
 | [], vs => by simp [rowsA]
 | n :: ns, [] => by simp [rowsA]
 | n :: ns, v :: vs => by
  have ih := rowsA_le ns vs
  simp only [rowsA]
  split
  · rw [List.length_cons]; omega
  · rw [List.length_cons, List.length_cons]; omega
theorem RB_le {ns : List ByteArray} {vs : List Tm} {i : Nat} : (RB (ns.take i) vs).length ≤ i := by
 unfold RB
 rw [List.length_map]
 have := rowsA_le (ns.take i) vs
 rw [List.length_take] at this
 omega
theorem hid_take (l : List UInt8) : (l.take 1 == [95]) = firstB (fun c => c == 95) l := by
 cases l with
 | nil => rfl
 | cons c t => simp [firstB]
theorem hid_nil {l : List UInt8} (h : ¬ 1 ≤ l.length) : firstB (fun c => c == 95) l = false := by
 cases l with
 | nil => rfl
 | cons c t => simp at h
theorem ansL_ne {ns : List ByteArray} {vs : List Tm} (h : ¬ (RB ns vs).length = 0) : ansL ns vs = joinL (rowsA ns vs) := by
 unfold ansL
 rw [if_neg]
 intro h9
 unfold RB at h
 rw [h9] at h
 exact h rfl
theorem ansL_no {ns : List ByteArray} {vs : List Tm} (h : (RB ns vs).length = 0) : ansL ns vs = [121, 101, 115] := by
 unfold ansL
 rw [if_pos]
 unfold RB at h
 rw [List.length_map] at h
 exact List.eq_nil_of_length_eq_zero h
end Go.Proofs.YtanhhihechakhaaGreatDoor.WrP
set_option linter.unusedVariables false
set_option linter.unusedSimpArgs false
namespace Go.Proofs.YtanhhihechakhaaGreatDoor
open Go.RowKit Go.Proofs.YtanhhihechakhaaGreatDoor.E Go.Proofs.YtanhhihechakhaaGreatDoor.ReplP Go.Proofs.YtanhhihechakhaaGreatDoor.TokP Go.Proofs.YtanhhihechakhaaGreatDoor.TermP Go.Proofs.YtanhhihechakhaaGreatDoor.WrP
set_option maxRecDepth 100000 in
theorem hq2_c (s : ByteArray) (h : Hp) (hs : s.size ≤ 140737488355328) : C0 Tryz.prog 60 [.string s, .string ⟨#[95]⟩] h (.bool (hidB s)) := by
 refine enter0 Tryz.func60 rfl rfl rfl (fun w => ?_)
 refine cy_seq ?_
 refine cy_region ?_
 refine sy_assign rfl rfl rfl ?_
 refine sy_nil rfl ?_
 refine ny_next ?_
 refine cy_seq ?_
 refine cy_region ?_
 refine sy_move rfl rfl rfl ?_
 refine sy_len rfl (len_string Tryz.underlying9 _) rfl rfl ?_
 refine sy_move rfl rfl rfl ?_
 refine sy_len rfl (len_string Tryz.underlying9 _) rfl rfl ?_
 refine sy_cmp rfl rfl rfl rfl rfl ?_
 refine sy_move rfl rfl rfl ?_
 refine sy_cond (d := 10) _ rfl rfl (fun hg10 => ?_) (fun hg10 => ?_)
 · refine sy_move rfl rfl rfl ?_
   refine sy_move rfl rfl rfl ?_
   refine sy_len rfl (len_string Tryz.underlying9 _) rfl rfl ?_
   refine sy_strto (hi := 1) Tryz.underlying9 rfl rfl (by have := of_decide_eq_true hg10; have h8 : (⟨#[95]⟩ : ByteArray).size = 1 := rfl; omega) rfl rfl ?_
   refine sy_move rfl rfl rfl ?_
   refine sy_eqs rfl rfl rfl rfl ?_
   refine sy_pickT rfl rfl rfl rfl ?_
   refine sy_assign rfl rfl rfl ?_
   refine sy_nil rfl ?_
   refine ny_next ?_
   refine cy_ret ?_
   refine ny_finR (res1 rfl rfl) (fun w hs2 => ⟨?_, hs2.frm⟩)
   refine congrArg (fun b => Ending.returned (Value.bool b)) ?_
   (rw [ext_to]; exact hid_take _)
 · refine sy_skip rfl rfl rfl ?_
   refine sy_skip rfl rfl rfl ?_
   refine sy_skip rfl rfl rfl ?_
   refine sy_skip rfl rfl rfl ?_
   refine sy_skip rfl rfl rfl ?_
   refine sy_skip rfl rfl rfl ?_
   refine sy_pickF rfl rfl rfl rfl ?_
   refine sy_assign rfl rfl rfl ?_
   refine sy_nil rfl ?_
   refine ny_next ?_
   refine cy_ret ?_
   refine ny_finR (res1 rfl rfl) (fun w hs2 => ⟨?_, hs2.frm⟩)
   refine congrArg (fun b => Ending.returned (Value.bool b)) ?_
   exact (hid_nil (by have h9 := of_decide_eq_false hg10; have h8 : (⟨#[95]⟩ : ByteArray).size = 1 := rfl; have h7 : s.data.toList.length = s.size := rfl; omega)).symm
set_option maxRecDepth 100000 in
theorem hq_c (s : ByteArray) (h : Hp) (hs : s.size ≤ 140737488355328) : C0 Tryz.prog 41 [.string s, .string ⟨#[95]⟩] h (.bool (hidB s)) := by
 refine enter0 Tryz.func41 rfl rfl rfl (fun w => ?_)
 refine cy_seq ?_
 refine cy_region ?_
 refine sy_assign rfl rfl rfl ?_
 refine sy_nil rfl ?_
 refine ny_next ?_
 refine cy_seq ?_
 refine cy_region ?_
 refine sy_move rfl rfl rfl ?_
 refine sy_move rfl rfl rfl ?_
 refine sy_call rfl call_60 rfl (hq2_c s _ hs) rfl rfl ?_
 refine sy_assign rfl rfl rfl ?_
 refine sy_nil rfl ?_
 refine ny_next ?_
 refine cy_ret ?_
 refine ny_finR (res1 rfl rfl) (fun w hs => ⟨?_, hs.frm⟩)
 rfl
set_option maxRecDepth 100000 in
theorem answer_c (ns : List ByteArray) (A : Option Addr) (cA : Nat) (vs : List GT) (B : Option Addr) (cB : Nat) (h : Hp) (hN : RowsAt h A 1 (ns.map strC)) (hV : RowsAt h B 4 (vs.map GT.cells)) (hL : ∀ t ∈ vs, Lies h t ∧ Fits t) (ht : Tab10 h) (hn : ns.length ≤ 1048576) (hv : vs.length ≤ 1048576) (hz : lenA ns + lenV vs ≤ 1099511627776) : C0 Tryz.prog 20 [.slice A ns.length cA, .slice B vs.length cB] h (.string ⟨(ansL ns (vs.map GT.tm)).toArray⟩) := by
 have sz1 : ∀ a : UInt8, (⟨#[a]⟩ : ByteArray).size = 1 := fun _ => rfl
 have sz2 : ∀ a c : UInt8, (⟨#[a, c]⟩ : ByteArray).size = 2 := fun _ _ => rfl
 have sz3 : ∀ a c e : UInt8, (⟨#[a, c, e]⟩ : ByteArray).size = 3 := fun _ _ _ => rfl
 refine enter0 Tryz.func20 rfl rfl rfl (fun w => ?_)
 refine cy_seq ?_
 refine cy_region ?_
 refine sy_assign rfl rfl rfl ?_
 refine sy_nil rfl ?_
 refine ny_next ?_
 refine cy_seq ?_
 refine cy_region ?_
 refine sy_assign rfl rfl rfl ?_
 refine sy_nil rfl ?_
 refine ny_next ?_
 refine cy_seq ?_
 refine cy_seq ?_
 refine cy_region ?_
 refine sy_move rfl rfl rfl ?_
 refine sy_len rfl (len_slice Tryz.underlying37 _ _ _) rfl rfl ?_
 refine sy_move rfl rfl rfl ?_
 refine sy_nil rfl ?_
 refine ny_next ?_
 refine cy_block ?_
 refine cy_nilRow 9 1 ?_
 refine cy_loopK (ι := Nat × Value) [1, 8, 9] rfl (fun z => z.1 ≤ ns.length) (fun z => ns.length - z.1) (fun z => [(5, z.2), (10, .int .i64 (z.1 : Int))]) (fun z => h) (fun z => [Res.row z.2 9 1 (RB (ns.take z.1) (vs.map GT.tm)).length (((RB (ns.take z.1) (vs.map GT.tm)).map strC).flatten)]) (0, .slice none 0 0) [0] (Nat.zero_le _) ⟨rfl, rfl, trivial⟩ rfl rfl ?_
 rintro ⟨i, v5⟩ hI
 simp only at hI ⊢
 refine cy_seq ?_
 refine cy_region ?_
 refine sy_cmp rfl rfl rfl rfl rfl ?_
 refine sy_nil rfl ?_
 refine ny_next ?_
 refine cy_seq ?_
 refine cy_cond rfl (fun hc11 => ?_) (fun hc11 => ?_)
 · have hlti : i < ns.length := by have := of_decide_eq_true hc11; omega
   refine cy_skip ?_
   refine ny_next ?_
   refine cy_seq ?_
   refine cy_block ?_
   refine cy_seq ?_
   refine cy_region ?_
   refine sy_move rfl rfl rfl ?_
   refine sy_idxR (fc := strC) (es := ns) els_37 rfl rfl hN rfl (by omega) rfl rfl (fun e13 b13 o13 he13 hA13 hc13 => ?_)
   have hsa := lenA_at he13
   refine sy_ldh one_9 rfl (hc13 0 _ rfl) rfl rfl ?_
   refine sy_assign rfl rfl rfl ?_
   refine sy_assign rfl rfl rfl ?_
   refine sy_nil rfl ?_
   refine ny_next ?_
   refine cy_seq ?_
   refine cy_region ?_
   refine sy_move rfl rfl rfl ?_
   refine sy_move rfl rfl rfl ?_
   refine sy_len rfl (len_slice Tryz.underlying22 _ _ _) rfl rfl ?_
   refine sy_cmp rfl rfl rfl rfl rfl ?_
   refine sy_move rfl rfl rfl ?_
   refine sy_cond (d := 19) _ rfl rfl (fun hg19 => ?_) (fun hg19 => ?_)
   · have hnl : i < vs.length := by have := of_decide_eq_true hg19; omega
     refine sy_move rfl rfl rfl ?_
     refine sy_call rfl call_41 rfl (hq_c e13 _ (by omega)) rfl rfl ?_
     refine sy_not rfl rfl rfl ?_
     refine sy_pickT rfl rfl rfl rfl ?_
     refine sy_nil rfl ?_
     refine ny_next ?_
     refine cy_cond rfl (fun hc23 => ?_) (fun hc23 => ?_)
     · have hnh : hidB e13 = false := by simpa using hc23
       refine cy_region ?_
       refine sy_move rfl rfl rfl ?_
       refine sy_move rfl rfl rfl ?_
       refine sy_cat rfl rfl (by first | omega | (simp only [ByteArray.size_append, bsz, List.length_append, List.length_cons, List.length_nil, sz1, sz2, sz3]; omega) | (simp [ByteArray.size_append, bsz, sz1, sz2, sz3]; done)) rfl rfl ?_
       refine sy_move rfl rfl rfl ?_
       refine sy_move rfl rfl rfl ?_
       refine sy_idxR (fc := GT.cells) (es := vs) els_22 rfl rfl hV rfl (by omega) rfl rfl (fun e29 b29 o29 he29 hA29 hc29 => ?_)
       have hsv := lenV_at he29
       have hlf := hL e29 (List.mem_of_getElem? he29)
       refine sy_ldah (vs := GT.cells e29) agg_24 rfl rfl hc29 rfl rfl ?_
       refine sy_call rfl call_13 rfl (text_c e29 _ hlf.1 hlf.2 ht (by omega)) rfl rfl ?_
       refine sy_cat rfl rfl (by first | omega | (simp only [ByteArray.size_append, bsz, List.length_append, List.length_cons, List.length_nil, sz1, sz2, sz3]; omega) | (simp [ByteArray.size_append, bsz, sz1, sz2, sz3]; done)) rfl rfl ?_
       have hBA : e13 ++ ⟨#[32, 61, 32]⟩ ++ ⟨(txt e29.tm).toArray⟩ = (⟨(e13.data.toList ++ [32, 61, 32] ++ txt e29.tm).toArray⟩ : ByteArray) := by
        apply ByteArray.ext
        simp
       refine sy_buildSlice rfl (fun w => bsl_37_1_0 w) rfl rfl (fun b33 hb33 hM33 => ?_) (by simp)
       refine sy_append 1 0 row_37 (by decide) rfl rfl rfl rfl rfl rfl (by have h9 : (RB (ns.take i) (vs.map GT.tm)).length ≤ i := RB_le; omega) (by have h9 : (RB (ns.take i) (vs.map GT.tm)).length ≤ i := RB_le; simp only [maxLen]; omega) rfl rfl (fun v34 => ?_)
       refine sy_assign rfl rfl rfl ?_
       refine sy_nil rfl ?_
       refine ny_blockN ?_
       refine ny_next ?_
       refine cy_region ?_
       refine sy_addi (z := ((i + 1 : Nat) : Int)) rfl rfl (by omega) (by omega) (by omega) rfl rfl ?_
       refine sy_move rfl rfl rfl ?_
       refine sy_nil rfl ?_
       refine ny_roundK [1, 8, 9] (i + 1, v34) [0] (show i + 1 ≤ ns.length by omega) (show ns.length - (i + 1) < ns.length - i by omega) rfl ⟨rfl, rfl, trivial⟩ rfl (by show _ = some [Res.row v34 9 1 (RB (ns.take (i + 1)) (vs.map GT.tm)).length (((RB (ns.take (i + 1)) (vs.map GT.tm)).map strC).flatten)]; rw [RB_succ he13 he29 hnh, strC_snoc, List.length_append, ← hBA]; rfl)
     · have hnh : hidB e13 = true := by simpa using hc23
       refine cy_skip ?_
       refine ny_blockN ?_
       refine ny_next ?_
       refine cy_region ?_
       refine sy_addi (z := ((i + 1 : Nat) : Int)) rfl rfl (by omega) (by omega) (by omega) rfl rfl ?_
       refine sy_move rfl rfl rfl ?_
       refine sy_nil rfl ?_
       refine ny_roundK [1, 8, 9] (i + 1, v5) [0] (show i + 1 ≤ ns.length by omega) (show ns.length - (i + 1) < ns.length - i by omega) rfl ⟨rfl, rfl, trivial⟩ rfl (by show _ = some [Res.row v5 9 1 (RB (ns.take (i + 1)) (vs.map GT.tm)).length (((RB (ns.take (i + 1)) (vs.map GT.tm)).map strC).flatten)]; rw [RB_hid he13 (.inl hnh)]; rfl)
   · have hnl : vs.length ≤ i := by have := of_decide_eq_false hg19; omega
     refine sy_skip rfl rfl rfl ?_
     refine sy_skip rfl rfl rfl ?_
     refine sy_skip rfl rfl rfl ?_
     refine sy_pickF rfl rfl rfl rfl ?_
     refine sy_nil rfl ?_
     refine ny_next ?_
     refine cy_condF rfl ?_
     refine cy_skip ?_
     refine ny_blockN ?_
     refine ny_next ?_
     refine cy_region ?_
     refine sy_addi (z := ((i + 1 : Nat) : Int)) rfl rfl (by omega) (by omega) (by omega) rfl rfl ?_
     refine sy_move rfl rfl rfl ?_
     refine sy_nil rfl ?_
     refine ny_roundK [1, 8, 9] (i + 1, v5) [0] (show i + 1 ≤ ns.length by omega) (show ns.length - (i + 1) < ns.length - i by omega) rfl ⟨rfl, rfl, trivial⟩ rfl (by show _ = some [Res.row v5 9 1 (RB (ns.take (i + 1)) (vs.map GT.tm)).length (((RB (ns.take (i + 1)) (vs.map GT.tm)).map strC).flatten)]; rw [RB_hid he13 (.inr hnl)]; rfl)
 · have hie : i = ns.length := by have := of_decide_eq_false hc11; omega
   subst hie
   rw [List.take_length]
   refine cy_exit ?_
   refine ny_thenE ?_
   refine ny_thenE ?_
   refine ny_blockX ?_
   refine ny_next ?_
   refine cy_seq ?_
   refine cy_seq ?_
   refine cy_frzRow 0 rfl (fun _ _ => by simp) (fun A5 c5 h5 hv5 hlc5 hcm5 _ hle5 hcell5 => ?_)
   subst hv5
   have hr5 : RowsAt h5 A5 1 ((RB ns (vs.map GT.tm)).map strC) := rows_row (by decide) (strC_len _) hcell5
   replace ht := ht.le hle5
   have hrl : (RB ns (vs.map GT.tm)).length ≤ ns.length := by have h9 := RB_le (ns := ns) (vs := vs.map GT.tm) (i := ns.length); rwa [List.take_length] at h9
   have hjl := joinA_len ns vs
   refine cy_region ?_
   refine sy_move rfl rfl rfl ?_
   refine sy_len rfl (len_slice Tryz.underlying37 _ _ _) rfl rfl ?_
   refine sy_cmp rfl rfl rfl rfl rfl ?_
   refine sy_nil rfl ?_
   refine ny_next ?_
   refine cy_cond rfl (fun hc38 => ?_) (fun hc38 => ?_)
   · have hk0 : (RB ns (vs.map GT.tm)).length = 0 := by have := eq_of_beq hc38; omega
     refine cy_seq ?_
     refine cy_region ?_
     refine sy_assign rfl rfl rfl ?_
     refine sy_nil rfl ?_
     refine ny_next ?_
     refine cy_ret ?_
     refine ny_thenR ?_
     refine ny_finR (res1 rfl rfl) (fun w hs => ⟨?_, hs.frm⟩)
     refine congrArg (fun l : List UInt8 => Ending.returned (Value.string ⟨l.toArray⟩)) ?_
     exact (ansL_no hk0).symm
   · have hk0 : ¬ (RB ns (vs.map GT.tm)).length = 0 := by
      intro h9
      rw [h9] at hc38
      simp at hc38
     refine cy_skip ?_
     refine ny_next ?_
     refine cy_seq ?_
     refine cy_region ?_
     refine sy_move rfl rfl rfl ?_
     refine sy_call rfl call_42 rfl (join_c A5 c5 (RB ns (vs.map GT.tm)) ⟨#[44, 32]⟩ _ hr5 hlc5 (by omega) (by show (Lib.join ((RB ns (vs.map GT.tm)).map (·.data.toList)) [44, 32]).length ≤ _; rw [RB_join]; omega)) rfl rfl ?_
     refine sy_assign rfl rfl rfl ?_
     refine sy_nil rfl ?_
     refine ny_next ?_
     refine cy_ret ?_
     refine ny_finR (res1 rfl rfl) (fun w hs => ⟨?_, hs.frm⟩)
     refine congrArg (fun l : List UInt8 => Ending.returned (Value.string ⟨l.toArray⟩)) ?_
     (rw [ansL_ne hk0, ← RB_join]; done)
end Go.Proofs.YtanhhihechakhaaGreatDoor
set_option linter.unusedVariables false
set_option linter.unusedSimpArgs false
namespace Go.Proofs.YtanhhihechakhaaGreatDoor
open Go.RowKit Go.Proofs.YtanhhihechakhaaGreatDoor.E Go.Proofs.YtanhhihechakhaaGreatDoor.ReplP Go.Proofs.YtanhhihechakhaaGreatDoor.TokP Go.Proofs.YtanhhihechakhaaGreatDoor.TermP Go.Proofs.YtanhhihechakhaaGreatDoor.WrP
theorem lies_leaf (h : Hp) (k n : Int) (s : ByteArray) : Lies h (GT.mk k n s none 0 []) := .intro _ _ _ _ _ _ (Nat.le_refl _) (fun j c hj => by simp at hj) (fun t ht => (List.not_mem_nil ht).elim)
theorem fits_leaf {k n : Int} {s : ByteArray} (hk0 : -9223372036854775808 ≤ k) (hk1 : k ≤ 9223372036854775807) (hn0 : -9223372036854775808 ≤ n) (hn1 : n ≤ 9223372036854775807) (hs : s.size ≤ 140737488355328) : Fits (GT.mk k n s none 0 []) := .intro _ _ _ _ _ _ hk0 hk1 hn0 hn1 hs (by simp) (fun t ht => (List.not_mem_nil ht).elim)
theorem fits_kids {k n : Int} {s : ByteArray} {A : Option Addr} {c : Nat} {kids : List GT} (hk0 : -9223372036854775808 ≤ k) (hk1 : k ≤ 9223372036854775807) (hn0 : -9223372036854775808 ≤ n) (hn1 : n ≤ 9223372036854775807) (hs : s.size ≤ 140737488355328) (hl : kids.length ≤ 1048576) (hk : ∀ t ∈ kids, Fits t) : Fits (GT.mk k n s A c kids) := .intro _ _ _ _ _ _ hk0 hk1 hn0 hn1 hs (by omega) hk
theorem tm_leaf (k n : Int) (s : ByteArray) : (GT.mk k n s none 0 []).tm = .mk k n s [] := by rw [GT.tm_mk]; rfl
set_option maxRecDepth 100000 in
theorem shown08_c (h : Hp) (ht : Tab10 h) : C0 Tryz.prog 9 [] h (.bool true) := by
 refine enter0 Tryz.func9 rfl rfl rfl (fun w => ?_)
 refine cy_seq ?_
 refine cy_region ?_
 refine sy_assign rfl rfl rfl ?_
 refine sy_nil rfl ?_
 refine ny_next ?_
 refine cy_seq ?_
 refine cy_region ?_
 refine sy_call rfl call_25 rfl (let_c 1 _) rfl rfl ?_
 refine sy_call rfl call_23 rfl (atom_c ⟨#[65]⟩ _) rfl rfl ?_
 refine sy_buildSlice (cs := [(GT.mk 1 1 ⟨#[]⟩ none 0 []), (GT.mk 3 0 ⟨#[65]⟩ none 0 [])].flatMap GT.cells) rfl (fun w => bsl_22_2_0x1 w) rfl rfl (fun b3 hb3 hM3 => ?_) (by simp)
 refine sy_frz 0 rfl (by simp) (fun h3 hle3 hbx3 => ?_)
 have hr3 : RowsAt h3 (some ⟨b3, 0, none⟩) 4 ([(GT.mk 1 1 ⟨#[]⟩ none 0 []), (GT.mk 3 0 ⟨#[65]⟩ none 0 [])].map GT.cells) := rows_blk (by decide) (GT.cells_len _) hbx3
 replace ht := ht.le hle3
 refine sy_callx call_22 rfl (make_c ⟨#[102]⟩ (some ⟨b3, 0, none⟩) 2 [(GT.mk 1 1 ⟨#[]⟩ none 0 []), (GT.mk 3 0 ⟨#[65]⟩ none 0 [])] _ rfl hr3 (by decide)) rfl rfl (fun x4 h4 hx4 hle4 => ?_)
 obtain ⟨A4, c4⟩ := x4
 obtain ⟨hr4, hc4⟩ := hx4
 replace ht := ht.le hle4
 have hl4 : ∀ t ∈ [(GT.mk 1 1 ⟨#[]⟩ none 0 []), (GT.mk 3 0 ⟨#[65]⟩ none 0 [])], Lies h4 t ∧ Fits t := (fun t ht => by simp only [List.mem_cons, List.not_mem_nil, or_false] at ht; rcases ht with rfl | rfl <;> exact ⟨lies_leaf _ _ _ _, fits_leaf (by decide) (by decide) (by decide) (by decide) (by decide)⟩)
 have hT : txt (GT.mk 3 0 ⟨#[102]⟩ A4 c4 [(GT.mk 1 1 ⟨#[]⟩ none 0 []), (GT.mk 3 0 ⟨#[65]⟩ none 0 [])]).tm = [102, 40, 95, 49, 44, 39, 65, 39, 41] := by kernel_rfl
 refine sy_call rfl call_13 rfl (text_c (GT.mk 3 0 ⟨#[102]⟩ A4 c4 [(GT.mk 1 1 ⟨#[]⟩ none 0 []), (GT.mk 3 0 ⟨#[65]⟩ none 0 [])]) _ (.intro _ _ _ _ _ _ hc4 hr4 (fun t h9 => (hl4 t h9).1)) (fits_kids (by decide) (by decide) (by decide) (by decide) (by decide) (by decide) (fun t h9 => (hl4 t h9).2)) ht (by rw [hT]; decide)) rfl rfl ?_
 rw [hT]
 refine sy_eqs rfl rfl rfl rfl ?_
 refine sy_move rfl rfl rfl ?_
 refine sy_setT (d := 7) rfl rfl (by first | rfl | decide | kernel_rfl | (simp; done) | (simp_all; done)) ?_
 refine sy_buildSlice (cs := [.string ⟨#[88]⟩, .string ⟨#[95, 121]⟩]) rfl (fun w => bsl_37_2_0x1 w) rfl rfl (fun b8 hb8 hM8 => ?_) (by simp)
 refine sy_frz 0 rfl (by simp) (fun h8 hle8 hbx8 => ?_)
 have hr8 : RowsAt h8 (some ⟨b8, 0, none⟩) 1 ([(⟨#[88]⟩ : ByteArray), ⟨#[95, 121]⟩].map strC) := rows_blk (by decide) (strC_len _) hbx8
 replace ht := ht.le hle8
 refine sy_call rfl call_24 rfl (num_c (-3) _) rfl rfl ?_
 refine sy_call rfl call_24 rfl (num_c 4 _) rfl rfl ?_
 refine sy_buildSlice (cs := [(GT.mk 2 (-3) ⟨#[]⟩ none 0 []), (GT.mk 2 4 ⟨#[]⟩ none 0 [])].flatMap GT.cells) rfl (fun w => bsl_22_2_0x1 w) rfl rfl (fun b11 hb11 hM11 => ?_) (by simp)
 refine sy_frz 0 rfl (by simp) (fun h11 hle11 hbx11 => ?_)
 have hr11 : RowsAt h11 (some ⟨b11, 0, none⟩) 4 ([(GT.mk 2 (-3) ⟨#[]⟩ none 0 []), (GT.mk 2 4 ⟨#[]⟩ none 0 [])].map GT.cells) := rows_blk (by decide) (GT.cells_len _) hbx11
 replace ht := ht.le hle11
 replace hr8 := hr8.le hle11
 have hl11 : ∀ t ∈ [(GT.mk 2 (-3) ⟨#[]⟩ none 0 []), (GT.mk 2 4 ⟨#[]⟩ none 0 [])], Lies h11 t ∧ Fits t := (fun t ht => by simp only [List.mem_cons, List.not_mem_nil, or_false] at ht; rcases ht with rfl | rfl <;> exact ⟨lies_leaf _ _ _ _, fits_leaf (by decide) (by decide) (by decide) (by decide) (by decide)⟩)
 have hA : ansL [(⟨#[88]⟩ : ByteArray), ⟨#[95, 121]⟩] ([(GT.mk 2 (-3) ⟨#[]⟩ none 0 []), (GT.mk 2 4 ⟨#[]⟩ none 0 [])].map GT.tm) = [88, 32, 61, 32, 45, 51] := by kernel_rfl
 refine sy_call rfl call_20 rfl (answer_c [(⟨#[88]⟩ : ByteArray), ⟨#[95, 121]⟩] _ 2 [(GT.mk 2 (-3) ⟨#[]⟩ none 0 []), (GT.mk 2 4 ⟨#[]⟩ none 0 [])] _ 2 _ hr8 hr11 hl11 ht (by decide) (by decide) (Nat.le_of_ble_eq_true (by kernel_rfl))) rfl rfl ?_
 rw [hA]
 refine sy_eqs rfl rfl rfl rfl ?_
 refine sy_pickT rfl rfl rfl rfl ?_
 refine sy_move rfl rfl rfl ?_
 refine sy_setT (d := 15) rfl rfl (by first | rfl | decide | kernel_rfl | (simp; done) | (simp_all; done)) ?_
 refine sy_call rfl call_20 rfl (answer_c [] none 0 [] none 0 _ (fun j c hj => by simp at hj) (fun j c hj => by simp at hj) (fun t h9 => (List.not_mem_nil h9).elim) ht (by decide) (by decide) (by decide)) rfl rfl ?_
 rw [show ansL [] ([].map GT.tm) = [121, 101, 115] by kernel_rfl]
 refine sy_eqs rfl rfl rfl rfl ?_
 refine sy_pickT rfl rfl rfl rfl ?_
 refine sy_assign rfl rfl rfl ?_
 refine sy_nil rfl ?_
 refine ny_next ?_
 refine cy_ret ?_
 refine ny_finR (res1 rfl rfl) (fun w hs => ⟨?_, hs.frm⟩)
 rfl
end Go.Proofs.YtanhhihechakhaaGreatDoor
set_option linter.unusedVariables false
set_option linter.unusedSimpArgs false
namespace Go.Proofs.YtanhhihechakhaaGreatDoor
open Go.RowKit Go.Proofs.YtanhhihechakhaaGreatDoor.E Go.Proofs.YtanhhihechakhaaGreatDoor.ReplP Go.Proofs.YtanhhihechakhaaGreatDoor.TokP Go.Proofs.YtanhhihechakhaaGreatDoor.TermP Go.Proofs.YtanhhihechakhaaGreatDoor.WrP
theorem txt_sealed (n : Int) (s : ByteArray) (A : Option Addr) (c : Nat) (a : GT) : txt (GT.mk 4 n s A c [a]).tm = [64, 40] ++ txt a.tm ++ [44] ++ Lib.itoa n ++ [41] := by
 rw [GT.tm_mk, txt_seal rfl rfl, List.map_cons, List.map_nil, txts_one]
theorem duo {h : Hp} {a b : GT} (ha : Lies h a ∧ Fits a) (hb : Lies h b ∧ Fits b) : ∀ t ∈ [a, b], Lies h t ∧ Fits t := fun t h9 => by
 simp only [List.mem_cons, List.not_mem_nil, or_false] at h9
 rcases h9 with rfl | rfl
 · exact ha
 · exact hb
end Go.Proofs.YtanhhihechakhaaGreatDoor
set_option linter.unusedVariables false
namespace Go.Proofs.YtanhhihechakhaaGreatDoor
open Go.RowKit Go.Proofs.YtanhhihechakhaaGreatDoor.E
theorem call_34 : callB Tryz.prog 34 = true := by kernel_rfl
theorem call_35 : callB Tryz.prog 35 = true := by kernel_rfl
theorem call_36 : callB Tryz.prog 36 = true := by kernel_rfl
end Go.Proofs.YtanhhihechakhaaGreatDoor
set_option linter.unusedVariables false
namespace Go.Proofs.YtanhhihechakhaaGreatDoor
open Go.RowKit Go.Proofs.YtanhhihechakhaaGreatDoor.E
theorem bld_88_0x1x2x4 {x1 : Option Addr} {x2 : Nat} {x3 : Nat} {x4 : Int} {x5 : Int} {x6 : Option Nat} (w : World) : (Instr.build 88 #[(0, .slice x1 x2 x3), (1, .int .i64 x4), (2, .int .i64 x5), (4, .map x6)]).run Tryz.prog w = .ok (.agg #[.slice x1 x2 x3, .int .i64 x4, .int .i64 x5, .int .i64 0, .map x6, .slice none 0 0]) w := by kernel_rfl
theorem call_54 : callB Tryz.prog 54 = true := by kernel_rfl
theorem fld_90_0 : fldB Tryz.prog 90 0 0 = true := by kernel_rfl
theorem fld_90_1 : fldB Tryz.prog 90 1 1 = true := by kernel_rfl
theorem sz_90 : szB Tryz.prog 90 2 = true := by kernel_rfl
theorem zer_37 : zerL Tryz.prog 37 = some [.slice none 0 0] := by kernel_rfl
theorem zer_90 : zerL Tryz.prog 90 = some [.int .i64 0, .int .i64 0] := by kernel_rfl
end Go.Proofs.YtanhhihechakhaaGreatDoor
set_option linter.unusedVariables false
namespace Go.Proofs.YtanhhihechakhaaGreatDoor
open Go.RowKit Go.Proofs.YtanhhihechakhaaGreatDoor.E
theorem call_97 : callB Tryz.prog 97 = true := by kernel_rfl
end Go.Proofs.YtanhhihechakhaaGreatDoor
set_option linter.unusedVariables false
namespace Go.Proofs.YtanhhihechakhaaGreatDoor
open Go.RowKit Go.Proofs.YtanhhihechakhaaGreatDoor.E
theorem bld_24_  (w : World) : (Instr.build 24 #[]).run Tryz.prog w = .ok (.agg #[.int .i64 0, .int .i64 0, .string ⟨#[]⟩, .slice none 0 0]) w := by kernel_rfl
theorem call_111 : callB Tryz.prog 111 = true := by kernel_rfl
theorem call_112 : callB Tryz.prog 112 = true := by kernel_rfl
theorem call_113 : callB Tryz.prog 113 = true := by kernel_rfl
theorem call_115 : callB Tryz.prog 115 = true := by kernel_rfl
theorem call_96 : callB Tryz.prog 96 = true := by kernel_rfl
theorem one_85 : oneB Tryz.prog 85 = true := by kernel_rfl
end Go.Proofs.YtanhhihechakhaaGreatDoor
set_option linter.unusedVariables false
namespace Go.Proofs.YtanhhihechakhaaGreatDoor
open Go.RowKit Go.Proofs.YtanhhihechakhaaGreatDoor.E
theorem call_100 : callB Tryz.prog 100 = true := by kernel_rfl
theorem call_127 : callB Tryz.prog 127 = true := by kernel_rfl
theorem call_128 : callB Tryz.prog 128 = true := by kernel_rfl
theorem fld_79_2 : fldB Tryz.prog 79 2 2 = true := by kernel_rfl
end Go.Proofs.YtanhhihechakhaaGreatDoor
set_option linter.unusedVariables false
namespace Go.Proofs.YtanhhihechakhaaGreatDoor
open Go.RowKit Go.Proofs.YtanhhihechakhaaGreatDoor.E
theorem call_114 : callB Tryz.prog 114 = true := by kernel_rfl
theorem call_126 : callB Tryz.prog 126 = true := by kernel_rfl
theorem call_55 : callB Tryz.prog 55 = true := by kernel_rfl
theorem call_83 : callB Tryz.prog 83 = true := by kernel_rfl
end Go.Proofs.YtanhhihechakhaaGreatDoor
set_option linter.unusedVariables false
namespace Go.Proofs.YtanhhihechakhaaGreatDoor
open Go.RowKit Go.Proofs.YtanhhihechakhaaGreatDoor.E
theorem fld_88_2 : fldB Tryz.prog 88 2 2 = true := by kernel_rfl
theorem fld_88_4 : fldB Tryz.prog 88 4 4 = true := by kernel_rfl
theorem fld_88_5 : fldB Tryz.prog 88 5 5 = true := by kernel_rfl
theorem one_86 : oneB Tryz.prog 86 = true := by kernel_rfl
end Go.Proofs.YtanhhihechakhaaGreatDoor
set_option linter.unusedVariables false
namespace Go.Proofs.YtanhhihechakhaaGreatDoor
open Go.RowKit Go.Proofs.YtanhhihechakhaaGreatDoor.E
theorem bld_90_0x1 {x1 : Int} {x2 : Int} (w : World) : (Instr.build 90 #[(0, .int .i64 x1), (1, .int .i64 x2)]).run Tryz.prog w = .ok (.agg #[.int .i64 x1, .int .i64 x2]) w := by kernel_rfl
theorem call_56 : callB Tryz.prog 56 = true := by kernel_rfl
theorem call_57 : callB Tryz.prog 57 = true := by kernel_rfl
theorem call_98 : callB Tryz.prog 98 = true := by kernel_rfl
theorem call_99 : callB Tryz.prog 99 = true := by kernel_rfl
theorem els_58 : elsB Tryz.prog 58 79 5 = true := by kernel_rfl
theorem fld_79_3 : fldB Tryz.prog 79 3 3 = true := by kernel_rfl
theorem fld_88_0 : fldB Tryz.prog 88 0 0 = true := by kernel_rfl
theorem fld_88_1 : fldB Tryz.prog 88 1 1 = true := by kernel_rfl
theorem fld_88_3 : fldB Tryz.prog 88 3 3 = true := by kernel_rfl
theorem one_4 : oneB Tryz.prog 4 = true := by kernel_rfl
theorem one_58 : oneB Tryz.prog 58 = true := by kernel_rfl
end Go.Proofs.YtanhhihechakhaaGreatDoor
set_option linter.unusedVariables false
set_option linter.unusedSimpArgs false
namespace Go.Proofs.YtanhhihechakhaaGreatDoor.E
open Go.RowKit
def MapV (P : Program) (k e : TypeId) (o : Obj) (n : Nat) (g : ByteArray → Option Nat) : Prop :=
 ∃ D : DataW Unit, (∀ (w : World) (b : Nat), w.heap[b]? = some o → w.ownsMap P k (plainElem P e) b n D) ∧ Maps.IsMap D ∧ (∀ s : ByteArray, Maps.has D (.string s.data.toList) = (g s).isSome) ∧ ∀ (s : ByteArray) (v : Nat) (z : DataW Unit), g s = some v → D.atKey (.string s.data.toList) z = .lit (.int .i64 (v : Int))
theorem owns_of {P : Program} {k e : TypeId} {w : World} {b n : Nat} {D : DataW Unit} (h : w.ownsMap P k (plainElem P e) b n D) : ∃ o, w.heap[b]? = some o ∧ ∀ (w : World) (b : Nat), w.heap[b]? = some o → w.ownsMap P k (plainElem P e) b n D := by
 obtain ⟨es, clock, hb, h1, h2, h3⟩ := h
 exact ⟨_, hb, fun w b hb => ⟨es, clock, hb, h1, h2, h3⟩⟩
theorem mapV_new (P : Program) (k e : TypeId) : MapV P k e (.map #[] 0) 0 (fun _ => none) :=
 ⟨.map [], fun w b hb => by
  obtain ⟨es, clock, hb1, h1, h2, h3⟩ := World.ownsMap_made (H := Unit) w P k (plainElem P e)
  have h4 : (w.alloc (.map #[] 0)).heap[w.heap.size]? = some (.map #[] 0) := heap_alloc_new w _
  rw [h4] at hb1
  cases hb1
  exact ⟨#[], 0, hb, h1, h2, h3⟩, ⟨[], rfl⟩, fun s => rfl, fun s v z h => by cases h⟩
def updM (g : ByteArray → Option Nat) (s : ByteArray) (v : Nat) : ByteArray → Option Nat := fun t => if t = s then some v else g t
section
variable {m : Md} {P : Program} {ops : Array Oper} {Q : Exit → Act → World → Prop} {n : Nat} {D : List Deferred} {w0 : World} {M : List Nat} {h0 : Hp}
variable {f : Tab} {h : Hp} {H : List Res} {rest : List Oper}
variable {d t s ty : Nat} {p : String} {af : Array Edge} {g : Option (Nat × Bool)}
theorem sy_makeMap {k e : TypeId} (hw : gok ops f g = some true) (hn : Nat.blt d n = true)
    (c : ∀ b o, w0.heap.size ≤ b → b ∉ M → MapV P k e o 0 (fun _ => none) → Sy .txt P ops Q n D w0 M h0 rest ((d, .map (some b)) :: f) h (.blk b o :: H)) (hM : ∀ x ∈ M, x < w0.heap.size) :
    Sy .txt P ops Q n D w0 M h0 (⟨some d, .makeMap t none, s, p, af, g⟩ :: rest) f h H :=
 sy_op hw fun a w ha hs => by
  have hrun : (Instr.makeMap t none).run P w = .ok (.map (some w.heap.size)) (w.alloc (.map #[] 0)) := rfl
  unfold Oper.wp
  simp only [execOp, Option.map_none, Sem.run_bind, hrun, Result.andThen_ok, Sem.run_pure]
  exact c w.heap.size _ hs.frm.size (fun hx => by have := hM _ hx; have := hs.frm.size; omega) (mapV_new P k e) _ _ (ha.put d _ hn) (hs.alloc _)
theorem sy_lookupOk {k e : TypeId} {x y : Operand} {b nn : Nat} {o : Obj} {gm : ByteArray → Option Nat} {u : ByteArray} {H1 : List Res} (i : Nat) (ht : P.underlying t = some (.map k e)) (hk : P.underlying k = some .string) (he : P.underlying e = some (.int .i64)) (hz : ∀ w, (zeroValue e).run P w = .ok (.int .i64 0) w)
    (hx : f.ev x = some (.map (some b))) (hy : f.ev y = some (.string u)) (hu : u.size ≤ maxLen) (hp : pickR i H = some (.blk b o, H1)) (hm : MapV P k e o nn gm) (hw : gok ops f g = some true) (hn : Nat.blt d n = true)
    (c : Sy m P ops Q n D w0 M h0 rest ((d, .tuple #[.int .i64 (((gm u).getD 0 : Nat) : Int), .bool (gm u).isSome]) :: f) h H) : Sy m P ops Q n D w0 M h0 (⟨some d, .lookup t x y true, s, p, af, g⟩ :: rest) f h H :=
 sy_val hw rfl hn (fun a w ha hs => by
  obtain ⟨Dm, h1, h2, h3, h4⟩ := hm
  have hb : w.heap[b]? = some o := (hs.swap (pickR_perm hp)).ok _ (List.mem_cons_self)
  obtain ⟨v, ps, hrun, hv⟩ := (h1 w b hb).look_ok (Maps.string_keyed hk) ht (hz w) (plainElem_int he (by decide)) (WideMaps.keyOf_string_mk hk hu)
  obtain ⟨c, rfl, hc, _⟩ := plainElem_int_inv he hv
  have hc : (Dm.atKey (.string u.data.toList) (.lit (.int .i64 0))) = .lit (.int .i64 c) := congrArg Prod.fst hc
  have hcv : c = (((gm u).getD 0 : Nat) : Int) := by
   cases hg : gm u with
   | none =>
    have h5 := h3 u
    rw [hg] at h5
    rw [Maps.atKey_of_not_has h5] at hc
    injection hc with hc
    injection hc with _ hc
    exact hc.symm
   | some v =>
    rw [h4 u v _ hg] at hc
    injection hc with hc
    injection hc with _ hc
    exact hc.symm
  rw [h3 u, hcv] at hrun
  simp [execOp, ha.ev hx, ha.ev hy, hrun, Result.andThen]) c
theorem sy_mapUpd {k e : TypeId} {x y z : Operand} {b nn v : Nat} {o : Obj} {gm : ByteArray → Option Nat} {u : ByteArray} {H1 : List Res} (i : Nat) (ht : P.underlying t = some (.map k e)) (hk : P.underlying k = some .string) (he : P.underlying e = some (.int .i64))
    (hx : f.ev x = some (.map (some b))) (hy : f.ev y = some (.string u)) (hzv : f.ev z = some (.int .i64 (v : Int))) (hu : u.size ≤ maxLen) (hv : v ≤ 9223372036854775807) (hnn : nn < maxLen) (hp : pickR i H = some (.blk b o, H1)) (hm : MapV P k e o nn gm) (hw : gok ops f g = some true)
    (c : ∀ o', MapV P k e o' (nn + 1) (updM gm u v) → Sy .txt P ops Q n D w0 M h0 rest f h (.blk b o' :: H1)) : Sy .txt P ops Q n D w0 M h0 (⟨none, .mapUpdate t x y z, s, p, af, g⟩ :: rest) f h H :=
 sy_op hw fun a w ha hs => by
  obtain ⟨Dm, h1, h2, h3, h4⟩ := hm
  have hs' := hs.swap (pickR_perm hp)
  have hb : w.heap[b]? = some o := hs'.ok _ (List.mem_cons_self)
  have hwf : (Lit.int .i64 (v : Int)).wf = true := by simp [Lit.wf, IntKind.min, IntKind.max, IntKind.signed, IntKind.bits]; omega
  obtain ⟨w', hrun, ho, hg⟩ := (h1 w b hb).update (Maps.string_keyed hk) ht hnn (WideMaps.keyOf_string_mk hk hu) (plainElem_int (H := Unit) he hwf)
  obtain ⟨o', hb', h5⟩ := owns_of ho
  have hkl : WideAt.IsKeyLit (.string u.data.toList) := trivial
  have hm' : MapV P k e o' (nn + 1) (updM gm u v) := by
   refine ⟨_, h5, h2.put _ _, fun s => ?_, fun s v' z hgs => ?_⟩
   · by_cases e1 : s = u
     · subst e1
       rw [Maps.has_put_same h2 hkl]
       simp [updM]
     · rw [Maps.has_put_other (fun e2 => e1 (by injection e2 with e2; exact ByteArray.ext (Array.toList_inj.1 e2))), h3 s]
       simp [updM, e1]
   · by_cases e1 : s = u
     · subst e1
       rw [Maps.atKey_put_same h2 hkl]
       simp only [updM, if_true, Option.some.injEq] at hgs
       rw [hgs]
     · rw [Maps.atKey_put_other (fun e2 => e1 (by injection e2 with e2; exact ByteArray.ext (Array.toList_inj.1 e2)))]
       exact h4 s v' z (by simpa [updM, e1] using hgs)
  unfold Oper.wp
  simp only [execOp, ha.ev hx, ha.ev hy, ha.ev hzv, Sem.run_bind, hrun, Result.andThen_ok, Sem.run_pure]
  exact c o' hm' a w' ha (hs'.write ⟨hg.os, hg.tape, hg.output, hg.size, fun j hj hm => hg.block j hj (by simpa using hm)⟩ hb')
end
end Go.Proofs.YtanhhihechakhaaGreatDoor.E
set_option linter.unusedVariables false
set_option linter.unusedSimpArgs false
namespace Go.Proofs.YtanhhihechakhaaGreatDoor.E
open Go.RowKit
section
variable {P : Program} {ops : Array Oper} {Q : Exit → Act → World → Prop} {n : Nat} {D : List Deferred} {w0 : World} {M : List Nat} {h0 : Hp}
variable {f : Tab} {h : Hp} {H : List Res} {rest : List Oper}
section ops
variable {d t s : Nat} {p : String} {af : Array Edge} {g : Option (Nat × Bool)}
theorem sy_panic {x : Operand} {v : Value} (hx : f.ev x = some v) (hv : ∀ w, (Instr.panic v : Sem Value).run P w = .halt (.panic v) w) (hw : gok ops f g = some true) (k : Ny Q (.panic [{ v := v, recovered := false }]) n D w0 M h0 f h H) : Sy .txt P ops Q n D w0 M h0 (⟨none, .panic x, s, p, af, g⟩ :: rest) f h H :=
 sy_op hw fun a w ha hs => by
  have h2 := hv w
  unfold Oper.wp
  simp only [execOp, ha.ev hx, Sem.run_bind, h2]
  exact k a w ha hs
theorem sy_deferC {x : Operand} {F : Nat} {args : Array Operand} {tys : Array TypeId} {vs caps : List Value} (hf : f.ev x = some (.func (.func F) #[] caps.toArray)) (hx : f.evs args.toList = some vs) (hw : gok ops f g = some true) (k : Sy .txt P ops Q n (⟨.fn (.func F) caps.toArray, vs.toArray⟩ :: D) w0 M h0 rest f h H) :
    Sy .txt P ops Q n D w0 M h0 (⟨none, .defer ⟨.value x, args, tys⟩, t, p, af, g⟩ :: rest) f h H :=
 sy_op hw fun a w ha hs => by
  have h1 := map_evs ha hx
  have hrun : (execOp a.eval ⟨none, .defer ⟨.value x, args, tys⟩, t, p, af, g⟩).run P w = .ok (.defer ⟨.fn (.func F) caps.toArray, vs.toArray⟩) w := by
   simp only [execOp, resolve, h1, ha.ev hf, Deferred.ofValue, Sem.run_bind, Sem.run_pure, Result.andThen_ok, Array.empty_append]
  unfold Oper.wp
  rw [hrun]
  exact k _ w ⟨ha.size, by simp [Act.put, ha.defers], ha.get⟩ hs
end ops
/-! the deferred calls, in whatever mode -/
def LvU (P : Program) (fn : Func) (R : Ending → World → Prop) (u : FrameMode) (n : Nat) (ds : List Deferred) (w0 : World) (M : List Nat) (h0 : Hp) (f : Tab) (h : Hp) (H : List Res) : Prop :=
 ∀ (a : Act) (w : World), a.tmps.size = n → (∀ (i : Nat) (v : Value), f.get i = some v → a.tmps[i]? = some v) → St w0 M h0 h H w → Leaves P fn a.tmps R ds u w
theorem ny_finUR {fn : Func} {R : Ending → World → Prop} (k : LvU P fn R .returning n D w0 M h0 f h H) : Ny (bodyPostD P fn R) .ret n D w0 M h0 f h H := fun a w ha hs => by
 show Leaves P fn a.tmps R a.defers .returning w
 rw [ha.defers]
 exact k a w ha.size ha.get hs
theorem ny_finUP {fn : Func} {R : Ending → World → Prop} {ch : List PanicEntry} (k : LvU P fn R (.panicking ch) n D w0 M h0 f h H) : Ny (bodyPostD P fn R) (.panic ch) n D w0 M h0 f h H := fun a w ha hs => by
 show Leaves P fn a.tmps R a.defers (.panicking ch) w
 rw [ha.defers]
 exact k a w ha.size ha.get hs
def CRD {X : Type} (P : Program) (F : Nat) (vs : List Value) (u u' : FrameMode) (h : Hp) (Hin : List Res) (Φ : X → Hp → List Res → Prop) : Prop :=
 ∀ w, h.Sub w → Own h Hin w → CallsD P F vs.toArray u w fun e u2 w' => ∃ x h' H', u2 = u' ∧ (∃ v, e = .returned v) ∧ Φ x h' H' ∧ St w (keysOf Hin) h h' H' w'
theorem lvU_cons {X : Type} {fn : Func} {R : Ending → World → Prop} {F : Nat} {vs caps : List Value} {ds : List Deferred} {u u' : FrameMode} {Hin H1 : List Res} {Φ : X → Hp → List Res → Prop} (is : List Nat) (hF : callB P F = true) (hp : pickRs is H = some (Hin, H1)) (hu : u ≠ .run) (hc : CRD P F (vs ++ caps) u u' h Hin Φ)
    (k : ∀ x h' H', Φ x h' H' → h.Le h' → LvU P fn R (settle u') n ds w0 M h0 f h' (H' ++ H1)) : LvU P fn R u n (⟨.fn (.func F) caps.toArray, vs.toArray⟩ :: ds) w0 M h0 f h H := fun a w hsz ha hs => by
 have hs' := hs.swap (pickRs_perm hp)
 have he : vs.toArray ++ caps.toArray = (vs ++ caps).toArray := by simp
 refine leaves_cons (f := F) (args := (vs ++ caps).toArray) hu (by simp only [invoke, he, call_spec hF]) ?_
 refine (hc w hs.sub hs'.own').mono fun e u2 w' ⟨x, h', H', h1, ⟨v, h2⟩, hΦ, ht⟩ => ?_
 subst h1 h2
 exact k x h' H' hΦ ht.le a w' hsz ha (hs'.after ht)
theorem lvU_ret {fn : Func} {R : Ending → World → Prop} {v : Value} (hres : ∀ a w, Holds n [] f a → St w0 M h0 h H w → (results fn a.tmps).run P w = .ok v w) (k : ∀ w, St w0 M h0 h H w → R (.returned v) w) : LvU P fn R .returning n [] w0 M h0 f h H := fun a w hsz ha hs =>
 ⟨v, hres ⟨a.tmps, []⟩ w ⟨hsz, rfl, ha⟩ hs, k w hs⟩
theorem lvU_pan {fn : Func} {R : Ending → World → Prop} {ch : List PanicEntry} (k : ∀ w, St w0 M h0 h H w → R (.panicked ch) w) : LvU P fn R (.panicking ch) n [] w0 M h0 f h H := fun a w hsz ha hs => k w hs
theorem enterCRD {X : Type} {u : FrameMode} {Φ : X → Hp → List Res → Prop} {F : Nat} {fn : Func} {c : Code} {vs : List Value} (hf : P.funcs[F]? = some fn) (hb : fn.body = some c) (hi : initO 0 vs = some f) (hn : Nat.ble vs.length fn.ntmps = true)
    (k : ∀ w, (∀ x ∈ keysOf H, x < w.heap.size) → Cy P c (bodyPost P fn fun e w' => ∃ x h' H', (∃ v, e = .returned v) ∧ Φ x h' H' ∧ St w (keysOf H) h h' H' w') fn.ntmps [] w (keysOf H) h f h H) : CRD P F vs u u h H Φ :=
 fun w hs ho => by
  refine (callsD_of_wp hf hb (k w ho.lt _ w ⟨?_, rfl, fun i v hiv => ?_⟩ (St.startN hs ho))).mono fun e u2 w' hq => ?_
  · have := Nat.le_of_ble_eq_true hn
    simp
    omega
  · obtain ⟨_, h1⟩ := initO_get hi i v hiv
    have hlt := (List.getElem?_eq_some_iff.1 h1).1
    simp only [Nat.sub_zero] at h1 hlt
    rw [Array.getElem?_append_left (by simpa using hlt)]
    simpa using h1
  · obtain ⟨h1, x, h', H', h2, h3, h4⟩ := hq
    exact ⟨x, h', H', h1, h2, h3, h4⟩
theorem enterRec {X : Type} {i d1 d2 t1 t2 : Nat} {p1 p2 : String} {a1 a2 : Array Edge} {c2 : Code} {v : Value} {Φ : X → Hp → List Res → Prop} {F : Nat} {fn : Func} {vs : List Value} (hf : P.funcs[F]? = some fn)
    (hb : fn.body = some (.seq (.region i #[⟨some d1, .call ⟨.builtin .recover, #[], #[]⟩, t1, p1, a1, none⟩, ⟨some d2, .assign (.tmp d1), t2, p2, a2, none⟩] false) c2)) (hi : initO 0 vs = some f) (hn : Nat.ble vs.length fn.ntmps = true) (hd1 : Nat.blt d1 fn.ntmps = true) (hd2 : Nat.blt d2 fn.ntmps = true)
    (k : ∀ w, (∀ x ∈ keysOf H, x < w.heap.size) → Cy P c2 (bodyPost P fn fun e w' => ∃ x h' H', (∃ v, e = .returned v) ∧ Φ x h' H' ∧ St w (keysOf H) h h' H' w') fn.ntmps [] w (keysOf H) h ((d2, v) :: (d1, v) :: f) h H) :
    CRD P F vs (.panicking [{ v := v, recovered := false }]) (.panicking [{ v := v, recovered := true }]) h H Φ :=
 fun w hs ho => by
  have hst := St.startN hs ho
  refine callsD_of_wpS hf hb fun c0 cs hc0 => ?_
  have ha : Holds fn.ntmps [] f { tmps := vs.toArray ++ Array.replicate (fn.ntmps - vs.toArray.size) undef, defers := [] } := by
   refine ⟨?_, rfl, fun i v hiv => ?_⟩
   · have := Nat.le_of_ble_eq_true hn
     simp
     omega
   · obtain ⟨_, h1⟩ := initO_get hi i v hiv
     have hlt := (List.getElem?_eq_some_iff.1 h1).1
     simp only [Nat.sub_zero] at h1 hlt
     rw [Array.getElem?_append_left (by simpa using hlt)]
     simpa using h1
  refine wpS_seq (wpS_region ?_)
  have hr : ∀ ev : Operand → Value, (execOp ev ⟨some d1, .call ⟨.builtin .recover, #[], #[]⟩, t1, p1, a1, none⟩).run P w = .ok .recover w := fun ev => rfl
  have ha1 := ha.put d1 v hd1
  have hev := ha1.ev (v := v) (x := .tmp d1) (by simp [Tab.ev, Tab.get])
  have hrec : recoverD (c0 :: cs) = some (v, { c0 with mode := .panicking [{ v := v, recovered := true }] } :: cs) := by
   simp [recoverD, hc0]
  show wpOpsS P _ _ [0, 1] _ _ _
  generalize hA0 : ({ tmps := vs.toArray ++ Array.replicate (fn.ntmps - vs.toArray.size) undef, defers := [] } : Act) = A0 at ha ha1 hev ⊢
  simp only [wpOpsS, List.getElem?_toArray, List.getElem?_cons_zero, List.getElem?_cons_succ, Region.wanted, if_true, hr, hrec]
  have h2 : (execOp (A0.put (some d1) v).eval ⟨some d2, .assign (.tmp d1), t2, p2, a2, none⟩).run P w = .ok (.value v) w := by
   simp [execOp, hev]
  rw [h2]
  refine wpS_of_wp (wp_mono (k w ho.lt _ w (ha1.put d2 v hd2) hst) ?_)
  intro e a' w' hq
  cases e with
  | normal =>
   obtain ⟨h1, v', h3, x, h', H', h4, h5, h6⟩ := hq
   exact ⟨h1, _, rfl, v', h3, x, h', H', rfl, h4, h5, h6⟩
  | ret =>
   obtain ⟨h1, v', h3, x, h', H', h4, h5, h6⟩ := hq
   exact ⟨h1, _, rfl, v', h3, x, h', H', rfl, h4, h5, h6⟩
  | panic ch =>
   obtain ⟨h1, x, h', H', ⟨v', h4⟩, h5, h6⟩ := hq
   cases h4
  | exit i => exact hq.elim
  | goto i => exact hq.elim
  | outgrown =>
   obtain ⟨x, h', H', ⟨v', h4⟩, h5, h6⟩ := hq
   cases h4
end
end Go.Proofs.YtanhhihechakhaaGreatDoor.E
set_option linter.unusedVariables false
set_option linter.unusedSimpArgs false
namespace Go.Proofs.YtanhhihechakhaaGreatDoor.WrP
open Go.RowKit Go.Proofs.YtanhhihechakhaaGreatDoor.E Go.Proofs.YtanhhihechakhaaGreatDoor.ReplP Go.Proofs.YtanhhihechakhaaGreatDoor.TokP Go.Proofs.YtanhhihechakhaaGreatDoor.TermP
mutual
/-- a term's parts, itself first -/
def partsT : Tm → List Tm | .mk k n s kids => .mk k n s kids :: partsTs kids
def partsTs : List Tm → List Tm | [] => [] | t :: l => partsT t ++ partsTs l
end
mutual
def deepT : Tm → Nat | .mk _ _ _ kids => 1 + deepTs kids
def deepTs : List Tm → Nat | [] => 0 | t :: l => max (deepT t) (deepTs l)
end
theorem parts_mk (k n : Int) (s : ByteArray) (kids : List Tm) : partsT (.mk k n s kids) = .mk k n s kids :: partsTs kids := by rw [partsT]
theorem partsTs_nil : partsTs [] = [] := by rw [partsTs]
theorem partsTs_cons (t : Tm) (l : List Tm) : partsTs (t :: l) = partsT t ++ partsTs l := by rw [partsTs]
theorem partsTs_mem : ∀ {l : List Tm} {t p : Tm}, t ∈ l → p ∈ partsT t → p ∈ partsTs l
 | [], t, p, h, _ => (List.not_mem_nil h).elim
 | x :: l, t, p, h, hp => by
  rw [partsTs_cons]
  rcases List.mem_cons.1 h with rfl | h
  · exact List.mem_append_left _ hp
  · exact List.mem_append_right _ (partsTs_mem h hp)
def varsF (l : List Int) (ps : List Tm) : List Int := ps.foldl (fun l p => if p.k = 1 ∧ ¬ l.contains p.n = true then l ++ [p.n] else l) l
def varsT (t : Tm) : List Int := varsF [] (partsT t)
def aloneT (lv : Int) : Tm → Bool
 | .mk k n s kids => if k = 1 then decide (0 ≤ n) && decide (n < 4096) && decide (s = ⟨#[]⟩) && decide (kids.length = 0)
  else if k = 2 then decide (s = ⟨#[]⟩) && decide (kids.length = 0)
  else if k = 3 then decide (n = 0) && decide (s.size ≤ 64) && decide (kids.length ≤ 8)
  else if k = 4 then decide (s = ⟨#[]⟩) && decide (0 ≤ n) && decide (n < lv) && decide (kids.length = 1) && decide ((kids.map fun t => (varsT t).length).sum = 0)
  else false
def chkT (lv : Int) (t : Tm) : Int := if 1000 < (partsT t).length then 3 else if 60 < deepT t then 7 else if (partsT t).all (aloneT lv) = true then 0 else 4
theorem chk_ok {lv : Int} {t : Tm} (h : chkT lv t = 0) : (partsT t).all (aloneT lv) = true ∧ (partsT t).length ≤ 1000 ∧ deepT t ≤ 60 := by
 unfold chkT at h
 split at h
 · cases h
 · split at h
   · cases h
   · split at h
     · exact ⟨by assumption, by omega, by omega⟩
     · cases h
mutual
/-- has a term a Fun @ of two, or a name with a byte that may not be? -/
def atT : Tm → Bool | .mk k n s kids => (decide (k = 3) && decide (s = atS) && decide (kids.length = 2)) || !(s.data.toList.all okB) || atTs kids
def atTs : List Tm → Bool | [] => false | t :: l => atT t || atTs l
end
theorem atTs_any : ∀ l : List Tm, atTs l = l.any atT
 | [] => by rw [atTs]; rfl
 | t :: l => by rw [atTs, List.any_cons, atTs_any l]
theorem at_mk (k n : Int) (s : ByteArray) (kids : List Tm) : atT (.mk k n s kids) = ((decide (k = 3) && decide (s = atS) && decide (kids.length = 2)) || !(s.data.toList.all okB) || kids.any atT) := by
 rw [atT, atTs_any]
end Go.Proofs.YtanhhihechakhaaGreatDoor.WrP
set_option linter.unusedVariables false
set_option linter.unusedSimpArgs false
namespace Go.Proofs.YtanhhihechakhaaGreatDoor.OpsP
abbrev OpT := Int × List UInt8 × List UInt8
def rowsL : List (Int × List UInt8 × List (List UInt8)) :=
 [(1200, [120, 102, 120], [[58, 45]]), (1200, [102, 120], [[58, 45]]), (1150, [120, 102, 120], [[58, 58]]), (1100, [120, 102, 121], [[59]]), (1050, [120, 102, 121], [[45, 62]]), (1000, [120, 102, 121], [[44]]), (900, [102, 121], [[92, 43]]),
  (700, [120, 102, 120], [[61], [92, 61], [61, 61], [92, 61, 61], [64, 60], [105, 115], [61, 58, 61], [61, 92, 61], [60], [62], [61, 60], [62, 61]]), (500, [121, 102, 120], [[43], [45]]), (400, [121, 102, 120], [[42], [47, 47], [109, 111, 100]]), (200, [102, 121], [[45]]), (190, [120, 102, 120], [[64]])]
def opsL : List OpT := rowsL.flatMap fun r => r.2.2.map fun n => (r.1, r.2.1, n)
def hit (L : List UInt8) (k : Int) (o : OpT) : Bool := o.2.2 == L && ((o.2.1.length : Int) == k)
def findL (L : List UInt8) (k : Int) : Option OpT := opsL.find? (hit L k)
def bes (p : Int) (c : UInt8) : Int := if c = 121 then p else p - 1
def infixL (L : List UInt8) : Int × Int × Int × Bool := match findL L 3 with
 | some (p, ty, _) => (bes p (ty.getD 0 0), p, bes p (ty.getD 2 0), true)
 | none => (0, 0, 0, false)
def prefixL (L : List UInt8) : Int × Int × Bool := match findL L 2 with
 | some (p, ty, _) => (p, bes p (ty.getD 1 0), true)
 | none => (0, 0, false)
def refNames : List (List UInt8) := [[61], [92, 61], [61, 61], [92, 61, 61], [64, 60], [105, 115], [61, 58, 61], [61, 92, 61], [60], [62], [61, 60], [62, 61]]
def refInfix (L : List UInt8) : Int × Int × Int × Bool :=
 if L == [58, 45] then (1199, 1200, 1199, true) else
 if L == [58, 58] then (1149, 1150, 1149, true) else
 if L == [59] then (1099, 1100, 1100, true) else
 if L == [45, 62] then (1049, 1050, 1050, true) else
 if L == [44] then (999, 1000, 1000, true) else
 if refNames.any (· == L) then (699, 700, 699, true) else
 if L == [43] || L == [45] then (500, 500, 499, true) else
 if L == [42] || L == [47, 47] || L == [109, 111, 100] then (400, 400, 399, true) else
 if L == [64] then (189, 190, 189, true) else (0, 0, 0, false)
def refPrefix (L : List UInt8) : Int × Int × Bool :=
 if L == [58, 45] then (1200, 1199, true) else
 if L == [92, 43] then (900, 900, true) else
 if L == [45] then (200, 200, true) else (0, 0, false)
def allNames : List (List UInt8) := opsL.map (·.2.2)
theorem names_eq : allNames = [[58, 45], [58, 45], [58, 58], [59], [45, 62], [44], [92, 43], [61], [92, 61], [61, 61], [92, 61, 61], [64, 60], [105, 115], [61, 58, 61], [61, 92, 61], [60], [62], [61, 60], [62, 61], [43], [45], [42], [47, 47], [109, 111, 100], [45], [64]] := by decide
theorem findL_none {L : List UInt8} (k : Int) (h : L ∉ allNames) : findL L k = none := by
 unfold findL
 rw [List.find?_eq_none]
 intro o ho
 unfold hit
 have : ¬ o.2.2 = L := by
  rintro rfl
  exact h (List.mem_map.2 ⟨o, ho, rfl⟩)
 simp [this]
theorem infix_eq (L : List UInt8) : infixL L = refInfix L := by
 by_cases h : L ∈ allNames
 · revert h
   revert L
   rw [names_eq]
   decide
 · unfold infixL
   rw [findL_none 3 h]
   rw [names_eq] at h
   simp only [List.mem_cons, not_or] at h
   simp [refInfix, refNames, h, eq_comm (b := L)]
theorem prefix_eq (L : List UInt8) : prefixL L = refPrefix L := by
 by_cases h : L ∈ allNames
 · revert h
   revert L
   rw [names_eq]
   decide
 · unfold prefixL
   rw [findL_none 2 h]
   rw [names_eq] at h
   simp only [List.mem_cons, not_or] at h
   simp [refPrefix, h]
def cnt (p : OpT → Bool) (l : List OpT) : Int := (l.countP p : Int)
end Go.Proofs.YtanhhihechakhaaGreatDoor.OpsP
set_option linter.unusedVariables false
set_option linter.unusedSimpArgs false
namespace Go.Proofs.YtanhhihechakhaaGreatDoor.ReadP
open Go.RowKit Go.Proofs.YtanhhihechakhaaGreatDoor.E Go.Proofs.YtanhhihechakhaaGreatDoor.TokP Go.Proofs.YtanhhihechakhaaGreatDoor.TermP Go.Proofs.YtanhhihechakhaaGreatDoor.WrP Go.Proofs.YtanhhihechakhaaGreatDoor.OpsP
structure RSt where
 at_ : Nat
 names : List ByteArray
inductive RO (α : Type) where
 | ok (x : α) (s : RSt)
 | bad (at_ : Nat) (e : Int)
structure RT where
 kind : Int
 str : ByteArray
 num : Int
 quo : Bool
 tight : Bool
def rt0 : RT := ⟨0, ⟨#[]⟩, 0, false, false⟩
def rtOf (t : Tk) : RT := ⟨t.a.kind, t.a.str, t.a.num, t.a.quo, t.tight⟩
def tokA (L : List RT) (i : Nat) : RT := (L[i]?).getD rt0
def isP (L : List RT) (i : Nat) (c : List UInt8) : Bool := ((tokA L i).kind == 4) && ((tokA L i).str.data.toList == c)
def lastI : List ByteArray → ByteArray → Option Nat
 | [], _ => none
 | x :: l, s => match lastI l s with
  | some i => some (i + 1)
  | none => if x = s then some 0 else none
def lowS : ByteArray := ⟨#[95]⟩
def letT (n : Int) : Tm := .mk 1 n ⟨#[]⟩ []
def numT (n : Int) : Tm := .mk 2 n ⟨#[]⟩ []
def funT (s : ByteArray) (l : List Tm) : Tm := .mk 3 0 s l
def varR (s : ByteArray) (st : RSt) : Tm × RSt :=
 match lastI st.names s with
 | some i => if s = lowS then (letT st.names.length, ⟨st.at_, st.names ++ [s]⟩) else (letT i, st)
 | none => (letT st.names.length, ⟨st.at_, st.names ++ [s]⟩)
def mkR (lv : Int) (s : ByteArray) (l : List Tm) (st : RSt) : RO Tm :=
 match l with
 | [x, n] => if s = atS then (if n.k = 2 ∧ 0 ≤ n.n ∧ n.n < lv ∧ varsT x = [] then .ok (.mk 4 n.n ⟨#[]⟩ [x]) st else .bad st.at_ 4) else .ok (funT s l) st
 | _ => .ok (funT s l) st
def adv (st : RSt) : RSt := ⟨st.at_ + 1, st.names⟩
abbrev Rd := Int → RSt → RO (Tm × Int)
section
variable (L : List RT) (lv : Int)
def moreR (tm : Rd) : Nat → List Tm → RSt → RO (List Tm)
 | 0, acc, st => .ok acc st
 | n + 1, acc, st => if isP L st.at_ [44] = true then (match tm 999 (adv st) with
     | .ok x s2 => moreR tm n (acc ++ [x.1]) s2
     | .bad a e => .bad a e) else .ok acc st
def argsR (tm : Rd) (st : RSt) : RO (List Tm) := match tm 999 st with
 | .ok x s2 => moreR L tm (L.length + 1) [x.1] s2
 | .bad a e => .bad a e
def wantR {α : Type} (c : List UInt8) (x : α) (st : RSt) : RO α := if isP L st.at_ c = true then .ok x (adv st) else .bad st.at_ 4
def nilT : Tm := funT brL []
def pairS : ByteArray := ⟨#[46]⟩
def pairsR (l : List Tm) (last : Tm) : Tm := l.foldr (fun x r => funT pairS [x, r]) last
def listR (tm : Rd) (st : RSt) : RO Tm :=
 if isP L st.at_ [93] = true then .ok nilT (adv st) else
 match argsR L tm st with
 | .bad a e => .bad a e
 | .ok l s2 => if isP L s2.at_ [124] = true then (match tm 999 (adv s2) with
     | .ok y s3 => wantR L [93] (pairsR l y.1) s3
     | .bad a e => .bad a e) else wantR L [93] (pairsR l nilT) s2
def beginsR (t : RT) : Bool :=
 if t.kind = 3 ∨ t.kind = 2 then true else if t.kind = 4 then (t.str.data.toList == [40]) || (t.str.data.toList == [91]) else if t.kind = 1 then t.quo || !(refInfix t.str.data.toList).2.2.2 else false
def mapR {α β : Type} (f : α → β) : RO α → RO β
 | .ok x s => .ok (f x) s
 | .bad a e => .bad a e
def nameR (tm : Rd) (t : RT) (most : Int) (st : RSt) : RO (Tm × Int) :=
 if (tokA L st.at_).tight = true ∧ isP L st.at_ [40] = true then
  (match argsR L tm (adv st) with
  | .bad a e => .bad a e
  | .ok l s2 => match wantR L [41] l s2 with
   | .bad a e => .bad a e
   | .ok l s3 => mapR (·, 0) (mkR lv t.str l s3))
 else if t.quo = true then .ok (funT t.str [], 0) st
 else if t.str.data.toList = [45] ∧ (tokA L st.at_).tight = true ∧ (tokA L st.at_).kind = 3 then .ok (numT (IntKind.i64.wrap (-(tokA L st.at_).num)), 0) (adv st)
 else if (refPrefix t.str.data.toList).2.2 = true ∧ (refPrefix t.str.data.toList).1 ≤ most ∧ beginsR (tokA L st.at_) = true then
  (match tm (refPrefix t.str.data.toList).2.1 st with
  | .bad a e => .bad a e
  | .ok x s2 => mapR (·, (refPrefix t.str.data.toList).1) (mkR lv t.str [x.1] s2))
 else .ok (funT t.str [], 0) st
def firstR (tm : Rd) (most : Int) (st : RSt) : RO (Tm × Int) :=
 if (tokA L st.at_).kind = 3 ∧ (tokA L st.at_).num < 0 then .bad st.at_ 2
 else if (tokA L st.at_).kind = 3 then .ok (numT (tokA L st.at_).num, 0) (adv st)
 else if (tokA L st.at_).kind = 2 then .ok ((varR (tokA L st.at_).str (adv st)).1, 0) (varR (tokA L st.at_).str (adv st)).2
 else if (tokA L st.at_).kind = 1 then nameR L lv tm (tokA L st.at_) most (adv st)
 else if isP L st.at_ [40] = true then (match tm 1200 (adv st) with
  | .bad a e => .bad a e
  | .ok x s2 => wantR L [41] (x.1, 0) s2)
 else if isP L st.at_ [91] = true then mapR (·, 0) (listR L tm (adv st))
 else .bad st.at_ 4
def goesR (most pri : Int) (st : RSt) : Bool :=
 (((tokA L st.at_).kind == 1) && !(tokA L st.at_).quo || isP L st.at_ [44]) &&
 ((refInfix (tokA L st.at_).str.data.toList).2.2.2 && decide ((refInfix (tokA L st.at_).str.data.toList).2.1 ≤ most) && decide (pri ≤ (refInfix (tokA L st.at_).str.data.toList).1))
def loopR (tm : Rd) (most : Int) : Nat → Tm → Int → RSt → RO (Tm × Int)
 | 0, x, pri, st => .ok (x, pri) st
 | n + 1, x, pri, st => if goesR L most pri st = true then
     (match tm (refInfix (tokA L st.at_).str.data.toList).2.2.1 (adv st) with
     | .bad a e => .bad a e
     | .ok y s2 => match mkR lv (tokA L st.at_).str [x, y.1] s2 with
      | .bad a e => .bad a e
      | .ok z s3 => loopR tm most n z (refInfix (tokA L st.at_).str.data.toList).2.1 s3)
  else .ok (x, pri) st
def readT : Nat → Rd
 | 0 => fun _ st => .bad st.at_ 7
 | 1 => fun _ st => .bad st.at_ 7
 | k + 2 => fun most st => match firstR L lv (readT k) most st with
  | .bad a e => .bad a e
  | .ok x s2 => loopR L lv (readT (k + 1)) most (L.length + 1) x.1 x.2 s2
def readS (i : Nat) : RO Tm := match readT L lv 60 1200 ⟨i, []⟩ with
 | .bad a e => .bad a e
 | .ok x s2 => if (tokA L s2.at_).kind = 5 then (if chkT lv x.1 = 0 then .ok x.1 (adv s2) else .bad (s2.at_ + 1) (chkT lv x.1)) else .bad s2.at_ 4
inductive RA where
 | ok (l : List Tm)
 | bad (at_ : Nat) (e : Int)
def allS : Nat → Nat → List Tm → RA
 | 0, _, acc => .ok acc
 | k + 1, i, acc => if L.length ≤ i then .ok acc else match readS L lv i with
  | .bad a e => .bad a e
  | .ok x s => allS k s.at_ (acc ++ [x])
end
/-! forward -/
def Fwd (L : List RT) (tm : Rd) : Prop := ∀ most st x s, st.at_ ≤ L.length → tm most st = .ok x s → st.at_ < s.at_ ∧ s.at_ ≤ L.length ∧ s.names.length + st.at_ ≤ st.names.length + s.at_
theorem tok_lt {L : List RT} {i : Nat} (h : ¬ (tokA L i).kind = 0) : i < L.length := by
 by_cases hi : i < L.length
 · exact hi
 · exfalso
   apply h
   unfold tokA
   rw [List.getElem?_eq_none (by omega)]
   rfl
theorem isP_lt {L : List RT} {i : Nat} {c : List UInt8} (h : isP L i c = true) : i < L.length := by
 unfold isP at h
 rw [Bool.and_eq_true, beq_iff_eq] at h
 exact tok_lt (by rw [h.1]; decide)
theorem mkR_st {lv : Int} {s : ByteArray} {l : List Tm} {st s2 : RSt} {x : Tm} (h : mkR lv s l st = .ok x s2) : s2 = st := by
 unfold mkR at h
 split at h
 · split at h
   · split at h
     · cases h; rfl
     · cases h
   · cases h; rfl
 · cases h; rfl
theorem varR_at (s : ByteArray) (st : RSt) : (varR s st).2.at_ = st.at_ := by
 unfold varR
 split
 · split <;> rfl
 · rfl
theorem varR_names (s : ByteArray) (st : RSt) : (varR s st).2.names.length ≤ st.names.length + 1 := by
 unfold varR
 split
 · split
   · simp
   · exact Nat.le_succ _
 · simp
theorem want_fwd {α : Type} {L : List RT} {c : List UInt8} {x y : α} {st s : RSt} (h : wantR L c x st = .ok y s) : y = x ∧ s = adv st ∧ st.at_ < L.length := by
 unfold wantR at h
 split at h
 · rename_i hp
   cases h
   exact ⟨rfl, rfl, isP_lt hp⟩
 · cases h
theorem more_fwd {L : List RT} {tm : Rd} (hf : Fwd L tm) : ∀ (n : Nat) (acc : List Tm) (st : RSt) (l : List Tm) (s : RSt), st.at_ ≤ L.length → moreR L tm n acc st = .ok l s → st.at_ ≤ s.at_ ∧ s.at_ ≤ L.length ∧ s.names.length + st.at_ ≤ st.names.length + s.at_
 | 0, acc, st, l, s, h0, h => by cases h; exact ⟨Nat.le_refl _, h0, Nat.le_refl _⟩
 | n + 1, acc, st, l, s, h0, h => by
  unfold moreR at h
  split at h
  · rename_i hp
    have h1 := isP_lt hp
    split at h
    · rename_i x s2 h2
      have h3 := hf _ _ _ _ (show st.at_ + 1 ≤ L.length by omega) h2
      have h4 := more_fwd hf n _ s2 l s h3.2.1 h
      simp only [adv] at h3
      omega
    · cases h
  · cases h; exact ⟨Nat.le_refl _, h0, Nat.le_refl _⟩
theorem more_step {L : List RT} {tm : Rd} {n : Nat} {acc : List Tm} {st s2 : RSt} {x : Tm × Int} (hp : isP L st.at_ [44] = true) (hk : tm 999 (adv st) = .ok x s2) (hn : 1 ≤ n) : moreR L tm n acc st = moreR L tm (n - 1) (acc ++ [x.1]) s2 := by
 obtain ⟨m, rfl⟩ : ∃ m, n = m + 1 := ⟨n - 1, by omega⟩
 conv => lhs; unfold moreR
 rw [if_pos hp, hk]
 rfl
theorem more_bad {L : List RT} {tm : Rd} {n : Nat} {acc : List Tm} {st : RSt} {a : Nat} {e : Int} (hp : isP L st.at_ [44] = true) (hk : tm 999 (adv st) = .bad a e) (hn : 1 ≤ n) : moreR L tm n acc st = .bad a e := by
 obtain ⟨m, rfl⟩ : ∃ m, n = m + 1 := ⟨n - 1, by omega⟩
 unfold moreR
 rw [if_pos hp, hk]
theorem more_end {L : List RT} {tm : Rd} {n : Nat} {acc : List Tm} {st : RSt} (hp : isP L st.at_ [44] = false) : moreR L tm n acc st = .ok acc st := by
 cases n with
 | zero => rfl
 | succ m =>
  unfold moreR
  rw [if_neg (by rw [hp]; decide)]
theorem args_fwd {L : List RT} {tm : Rd} (hf : Fwd L tm) {st : RSt} {l : List Tm} {s : RSt} (h0 : st.at_ ≤ L.length) (h : argsR L tm st = .ok l s) : st.at_ < s.at_ ∧ s.at_ ≤ L.length ∧ s.names.length + st.at_ ≤ st.names.length + s.at_ := by
 unfold argsR at h
 split at h
 · rename_i x s2 h2
   have h3 := hf _ _ _ _ h0 h2
   have h4 := more_fwd hf _ _ _ _ _ h3.2.1 h
   omega
 · cases h
theorem list_fwd {L : List RT} {tm : Rd} (hf : Fwd L tm) {st : RSt} {x : Tm} {s : RSt} (h0 : st.at_ ≤ L.length) (h : listR L tm st = .ok x s) : st.at_ < s.at_ ∧ s.at_ ≤ L.length ∧ s.names.length + st.at_ ≤ st.names.length + s.at_ := by
 unfold listR at h
 have ea : ∀ t : RSt, (adv t).at_ = t.at_ + 1 := fun _ => rfl
 split at h
 · rename_i hp
   have := isP_lt hp
   cases h
   simp only [adv]
   omega
 · split at h
   · cases h
   · rename_i l s2 h2
     have h3 := args_fwd hf h0 h2
     split at h
     · rename_i hp
       have h4 := isP_lt hp
       split at h
       · rename_i y s3 h5
         have h6 := hf _ _ _ _ (show (adv s2).at_ ≤ L.length by rw [ea]; omega) h5
         have h7 := want_fwd h
         simp only [adv] at h6
         rw [h7.2.1]
         simp only [adv]
         omega
       · cases h
     · have h7 := want_fwd h
       rw [h7.2.1]
       simp only [adv]
       omega
theorem map_ok {α β : Type} {f : α → β} {r : RO α} {y : β} {s : RSt} (h : mapR f r = .ok y s) : ∃ x, r = .ok x s ∧ y = f x := by
 cases r with
 | ok x s2 => cases h; exact ⟨x, rfl, rfl⟩
 | bad a e => cases h
theorem name_fwd {L : List RT} {lv : Int} {tm : Rd} (hf : Fwd L tm) {t : RT} {most : Int} {st : RSt} {x : Tm × Int} {s : RSt} (h0 : st.at_ ≤ L.length) (h : nameR L lv tm t most st = .ok x s) : st.at_ ≤ s.at_ ∧ s.at_ ≤ L.length ∧ s.names.length + st.at_ ≤ st.names.length + s.at_ := by
 unfold nameR at h
 have ea : ∀ t : RSt, (adv t).at_ = t.at_ + 1 := fun _ => rfl
 split at h
 · rename_i hp
   have h1 := isP_lt hp.2
   split at h
   · cases h
   · rename_i l s2 h2
     have h3 := args_fwd hf (show (adv st).at_ ≤ L.length by rw [ea]; omega) h2
     split at h
     · cases h
     · rename_i l2 s3 h4
       have h5 := want_fwd h4
       obtain ⟨y, h6, _⟩ := map_ok h
       have h7 := mkR_st h6
       simp only [adv] at h3
       rw [h7, h5.2.1]
       simp only [adv]
       omega
 · split at h
   · cases h; exact ⟨Nat.le_refl _, h0, Nat.le_refl _⟩
   · split at h
     · rename_i hp
       have h1 := tok_lt (L := L) (i := st.at_) (by rw [hp.2.2]; decide)
       cases h
       simp only [adv]
       omega
     · split at h
       · split at h
         · cases h
         · rename_i y s2 h2
           have h3 := hf _ _ _ _ h0 h2
           obtain ⟨z, h6, _⟩ := map_ok h
           have h7 := mkR_st h6
           rw [h7]
           omega
       · cases h; exact ⟨Nat.le_refl _, h0, Nat.le_refl _⟩
theorem first_fwd {L : List RT} {lv : Int} {tm : Rd} (hf : Fwd L tm) : Fwd L (firstR L lv tm) := fun most st x s h0 h => by
 unfold firstR at h
 have ea : ∀ t : RSt, (adv t).at_ = t.at_ + 1 := fun _ => rfl
 split at h
 · cases h
 · split at h
   · rename_i hk
     have h1 := tok_lt (L := L) (i := st.at_) (by rw [hk]; decide)
     cases h
     simp only [adv]
     omega
   · split at h
     · rename_i hk
       have h1 := tok_lt (L := L) (i := st.at_) (by rw [hk]; decide)
       cases h
       rw [varR_at]
       have hvn := varR_names (tokA L st.at_).str (adv st)
       simp only [adv] at hvn ⊢
       omega
     · split at h
       · rename_i hk
         have h1 := tok_lt (L := L) (i := st.at_) (by rw [hk]; decide)
         have h2 := name_fwd hf (show (adv st).at_ ≤ L.length by rw [ea]; omega) h
         simp only [adv] at h2
         omega
       · split at h
         · rename_i hp
           have h1 := isP_lt hp
           split at h
           · cases h
           · rename_i y s2 h2
             have h3 := hf _ _ _ _ (show (adv st).at_ ≤ L.length by rw [ea]; omega) h2
             have h4 := want_fwd h
             simp only [adv] at h3
             rw [h4.2.1]
             simp only [adv]
             omega
         · split at h
           · rename_i hp
             have h1 := isP_lt hp
             obtain ⟨y, h2, _⟩ := map_ok h
             have h3 := list_fwd hf (show (adv st).at_ ≤ L.length by rw [ea]; omega) h2
             simp only [adv] at h3
             omega
           · cases h
theorem goes_lt {L : List RT} {most pri : Int} {st : RSt} (h : goesR L most pri st = true) : st.at_ < L.length := by
 unfold goesR at h
 rw [Bool.and_eq_true, Bool.or_eq_true] at h
 rcases h.1 with h1 | h1
 · rw [Bool.and_eq_true, beq_iff_eq] at h1
   exact tok_lt (by rw [h1.1]; decide)
 · exact isP_lt h1
theorem loop_fwd {L : List RT} {lv : Int} {tm : Rd} (hf : Fwd L tm) (most : Int) : ∀ (n : Nat) (x : Tm) (pri : Int) (st : RSt) (y : Tm × Int) (s : RSt), st.at_ ≤ L.length → loopR L lv tm most n x pri st = .ok y s → st.at_ ≤ s.at_ ∧ s.at_ ≤ L.length ∧ s.names.length + st.at_ ≤ st.names.length + s.at_
 | 0, x, pri, st, y, s, h0, h => by cases h; exact ⟨Nat.le_refl _, h0, Nat.le_refl _⟩
 | n + 1, x, pri, st, y, s, h0, h => by
  unfold loopR at h
  have ea : ∀ t : RSt, (adv t).at_ = t.at_ + 1 := fun _ => rfl
  split at h
  · rename_i hp
    have h1 := goes_lt hp
    split at h
    · cases h
    · rename_i z s2 h2
      have h3 := hf _ _ _ _ (show (adv st).at_ ≤ L.length by rw [ea]; omega) h2
      split at h
      · cases h
      · rename_i z2 s3 h4
        have h5 := mkR_st h4
        subst h5
        have h6 := loop_fwd hf most n _ _ _ y s h3.2.1 h
        simp only [adv] at h3
        omega
  · cases h; exact ⟨Nat.le_refl _, h0, Nat.le_refl _⟩
theorem read_fwd (L : List RT) (lv : Int) : ∀ k : Nat, Fwd L (readT L lv k) := fun k => by
 induction k using Nat.strongRecOn with
 | _ k ih =>
  match k, ih with
  | 0, _ => intro most st x s _ h; rw [readT] at h; cases h
  | 1, _ => intro most st x s _ h; rw [readT] at h; cases h
  | k + 2, ih =>
   intro most st x s h0 h
   simp only [readT] at h
   split at h
   · cases h
   · rename_i y s2 h2
     have h3 := first_fwd (ih k (by omega)) most st y s2 h0 h2
     have h4 := loop_fwd (ih (k + 1) (by omega)) most _ _ _ s2 x s h3.2.1 h
     omega
end Go.Proofs.YtanhhihechakhaaGreatDoor.ReadP
set_option linter.unusedVariables false
set_option linter.unusedSimpArgs false
namespace Go.Proofs.YtanhhihechakhaaGreatDoor.ReadP
open Go.RowKit Go.Proofs.YtanhhihechakhaaGreatDoor.E Go.Proofs.YtanhhihechakhaaGreatDoor.TokP Go.Proofs.YtanhhihechakhaaGreatDoor.TermP Go.Proofs.YtanhhihechakhaaGreatDoor.WrP Go.Proofs.YtanhhihechakhaaGreatDoor.OpsP
def rtC (t : RT) : List Value := [.int .i64 t.kind, .string t.str, .int .i64 t.num, .bool t.quo, .bool t.tight]
def faultV (T : Nat) (a : Nat) (e : Int) : Value := .iface T (.agg #[.int .i64 (a : Int), .int .i64 e])
inductive RX (α D : Type) where
 | ok (x : α) (s : RSt) (d : D)
 | bad (a : Nat) (e : Int)
def rvX {α D : Type} (T : Nat) (rv : α → D → Value) : RX α D → Ending
 | .ok x _ d => .returned (rv x d)
 | .bad a e => .panicked [{ v := faultV T a e, recovered := false }]
def ΦX {α D : Type} (ro : RO α) (Φ : α → RSt → D → Hp → List Res → Prop) (Ψ : Hp → List Res → Prop) : RX α D → Hp → List Res → Prop
 | .ok x s d, h, H => ro = .ok x s ∧ Φ x s d h H
 | .bad a e, h, H => ro = .bad a e ∧ Ψ h H
def CRO {α D : Type} (P : Program) (F : Nat) (vs : List Value) (h : Hp) (Hin : List Res) (T : Nat) (ro : RO α) (rv : α → D → Value) (Φ : α → RSt → D → Hp → List Res → Prop) (Ψ : Hp → List Res → Prop) : Prop :=
 CR P F vs h Hin (rvX T rv) (ΦX ro Φ Ψ)
section
variable {P : Program} {ops : Array Oper} {Q : Exit → Act → World → Prop} {n : Nat} {D : List Deferred} {w0 : World} {M : List Nat} {h0 : Hp} {f : Tab} {h : Hp} {H : List Res} {rest : List Oper}
variable {d t : Nat} {p : String} {af : Array Edge} {g : Option (Nat × Bool)} {F : Nat} {args : Array Operand} {tys : Array TypeId} {vs : List Value}
theorem sy_callRO {α Dt : Type} {T : Nat} {ro : RO α} {rv : α → Dt → Value} {Φ : α → RSt → Dt → Hp → List Res → Prop} {Ψ : Hp → List Res → Prop} {Hin H1 : List Res} (is : List Nat) (hF : callB P F = true) (hx : f.evs args.toList = some vs) (hp : pickRs is H = some (Hin, H1)) (hc : CRO P F vs h Hin T ro rv Φ Ψ) (hw : gok ops f g = some true) (hn : Nat.blt d n = true)
    (kbad : ∀ a e h' H', ro = .bad a e → Ψ h' H' → h.Le h' → Ny Q (.panic [{ v := faultV T a e, recovered := false }]) n D w0 M h0 f h' (H' ++ H1))
    (kok : ∀ x s dt h' H', ro = .ok x s → Φ x s dt h' H' → h.Le h' → Sy .txt P ops Q n D w0 M h0 rest ((d, rv x dt) :: f) h' (H' ++ H1)) : Sy .txt P ops Q n D w0 M h0 (⟨some d, .call ⟨.value (.func F), args, tys⟩, t, p, af, g⟩ :: rest) f h H :=
 sy_callR is hF hx hp hc hw hn fun x h' H' hΦ hle => by
  cases x with
  | ok x s dt => exact kok x s dt h' H' hΦ.1 hΦ.2 hle
  | bad a e => exact kbad a e h' H' hΦ.1 hΦ.2 hle
end
section
variable {P : Program} {ops : Array Oper} {Q : Exit → Act → World → Prop} {n : Nat} {D : List Deferred} {w0 : World} {M : List Nat} {h0 : Hp} {f : Tab} {h : Hp} {H : List Res} {rest : List Oper}
variable {d t s : Nat} {p : String} {af : Array Edge} {g : Option (Nat × Bool)}
theorem sy_negw {m : Md} {x : Operand} {mm : Int} (hs : P.underlying s = some (.int .i64)) (hx : f.ev x = some (.int .i64 mm)) (hw : gok ops f g = some true) (hn : Nat.blt d n = true)
    (k : Sy m P ops Q n D w0 M h0 rest ((d, .int .i64 (IntKind.i64.wrap (-mm))) :: f) h H) : Sy m P ops Q n D w0 M h0 (⟨some d, .unOp .neg s x, t, p, af, g⟩ :: rest) f h H :=
 sy_val hw rfl hn (fun a w ha _ => by simp [execOp, ha.ev hx, Op.unary, Op.intArith]) k
theorem wrap_bounds (z : Int) : -9223372036854775808 ≤ IntKind.i64.wrap z ∧ IntKind.i64.wrap z ≤ 9223372036854775807 := by
 have h1 := Int.emod_nonneg z (b := 18446744073709551616) (by decide)
 have h2 := Int.emod_lt_of_pos z (b := 18446744073709551616) (by decide)
 by_cases h : 9223372036854775808 ≤ z % 18446744073709551616
 · have e : IntKind.i64.wrap z = z % 18446744073709551616 - 18446744073709551616 := by
    unfold IntKind.wrap
    simp [IntKind.signed, IntKind.bits, h]
   rw [e]
   omega
 · have e : IntKind.i64.wrap z = z % 18446744073709551616 := by
    unfold IntKind.wrap
    simp [IntKind.signed, IntKind.bits, h]
   rw [e]
   omega
theorem sy_appendN {x y : Operand} {v : Value} {e size bytes l mm c b : Nat} {xs cs news : List Value} {H1 : List Res} {e2 : Nat} {fr : Nat × Nat} {H2 : List Res} (i j : Nat) (hr : rowB P s e size bytes = true) (h0' : 0 < size)
    (hx : f.ev x = some v) (hp : pickR i H = some (.row v e size l xs, H1)) (hy : f.ev y = some (.slice (some ⟨b, 0, none⟩) mm c)) (hq : pickR j H = some (.blk b (.cells cs.toArray e2 fr), H2))
    (hnews : sliceO 0 (mm * size) cs = some news) (h1 : ones news = true) (hb : (l + mm) * bytes ≤ 140737488355328) (hlen : l + mm ≤ maxLen) (hw : gok ops f g = some true) (hn : Nat.blt d n = true)
    (k : ∀ v', (∀ g, v'.ownBlock = some g → v.ownBlock = some g ∨ w0.heap.size ≤ g) → Sy .txt P ops Q n D w0 M h0 rest ((d, v') :: f) h (.row v' e size (l + mm) (xs ++ news) :: H1)) :
    Sy .txt P ops Q n D w0 M h0 (⟨some d, .call ⟨.builtin .append, #[x, y], #[s, s]⟩, t, p, af, g⟩ :: rest) f h H :=
 sy_op hw fun a w ha hs => by
  obtain ⟨h2, inf, z, h3, h4, h5, h6, h7⟩ := row_spec hr
  have hs' := hs.swap (pickR_perm hp)
  have ho : w.ownsRow 0 e size v l xs := hs'.ok _ (List.mem_cons_self)
  have hbk : w.heap[b]? = some (.cells cs.toArray e2 fr) := (hs.swap (pickR_perm hq)).ok _ (List.mem_cons_self)
  obtain ⟨hl1, hl2⟩ := sliceO_spec hnews
  have hcell : ∀ jj u, news[jj]? = some u → w.cell? ((⟨b, 0, none⟩ : Addr).add jj) = some u := fun jj u hj => by
   rw [Addr.add_at]
   have := hl2 jj u hj
   simp only [Nat.zero_add] at this ⊢
   simp [World.cell?, hbk, this]
  obtain ⟨v', w', hrun, ho', hg, _, hat⟩ := run_append_own_at (P := P) w 0 s t e inf z size bytes h2 h3 h4 h5 h6 h7 h0' v l xs ho ⟨b, 0, none⟩ mm c news hl1 hcell (ones_spec h1) hlen hb (Nat.zero_le _)
  have hrun' : (execOp a.eval ⟨some d, .call ⟨.builtin .append, #[x, y], #[s, s]⟩, t, p, af, g⟩).run P w = .ok (.value v') w' := by
   simp only [execOp, resolve, invoke, builtin, Sem.run_bind, Sem.run_pure, Result.andThen_ok, List.map_toArray, List.map_cons, List.map_nil, ha.ev hx, ha.ev hy, hrun]
  unfold Oper.wp
  rw [hrun']
  refine k v' (fun g hg => ?_) _ w' (ha.put d _ hn) (hs'.rowed hg ho' ?_)
  · rcases hat with hat | hat
    · exact .inl (hat ▸ hg)
    · rw [hat] at hg
      cases hg
      exact .inr hs.frm.size
  · rcases hat with hat | hat
    · exact .inl hat
    · exact .inr (.inl ⟨_, hat, Nat.le_refl _⟩)
end
/-! the tokens that are handed in -/
def TokOk (t : RT) : Prop := (-9223372036854775808 ≤ t.kind ∧ t.kind ≤ 9223372036854775807) ∧ t.str.size ≤ 4398046511104 ∧ (-9223372036854775808 ≤ t.num ∧ t.num ≤ 9223372036854775807)
theorem tokA_ok {L : List RT} (h : ∀ t ∈ L, TokOk t) (i : Nat) : TokOk (tokA L i) := by
 unfold tokA
 cases hi : L[i]? with
 | none => exact ⟨by decide, by decide, by decide⟩
 | some t => exact h t (List.mem_of_getElem? hi)
theorem lastI_snoc : ∀ (l : List ByteArray) (u : ByteArray), lastI (l ++ [u]) = updM (lastI l) u l.length
 | [], u => by
  funext s
  simp only [List.nil_append, lastI, updM]
  by_cases h : s = u
  · subst h; simp
  · simp [h, Ne.symm h]
 | x :: l, u => by
  funext s
  rw [List.cons_append]
  have ih := congrFun (lastI_snoc l u) s
  simp only [lastI, ih, updM, List.length_cons]
  by_cases h : s = u
  · simp [h]
  · simp [h]
theorem lastI_lt : ∀ {l : List ByteArray} {s : ByteArray} {i : Nat}, lastI l s = some i → i < l.length
 | [], s, i, h => by cases h
 | x :: l, s, i, h => by
  simp only [lastI] at h
  split at h
  · rename_i j hj
    have := lastI_lt hj
    cases h
    rw [List.length_cons]
    omega
  · split at h
    · cases h
      rw [List.length_cons]
      omega
    · cases h
end Go.Proofs.YtanhhihechakhaaGreatDoor.ReadP
set_option linter.unusedVariables false
namespace Go.Proofs.YtanhhihechakhaaGreatDoor
open Go.RowKit Go.Proofs.YtanhhihechakhaaGreatDoor.E
theorem call_12 : callB Tryz.prog 12 = true := by kernel_rfl
theorem call_14 : callB Tryz.prog 14 = true := by kernel_rfl
theorem call_15 : callB Tryz.prog 15 = true := by kernel_rfl
theorem call_33 : callB Tryz.prog 33 = true := by kernel_rfl
end Go.Proofs.YtanhhihechakhaaGreatDoor
set_option linter.unusedVariables false
namespace Go.Proofs.YtanhhihechakhaaGreatDoor
open Go.RowKit Go.Proofs.YtanhhihechakhaaGreatDoor.E
theorem bsl_35_1_0 {x1 : Int} (w : World) : (Instr.buildSlice 35 1 #[(0, .int .i64 x1)]).run Tryz.prog w = .ok (.slice (some ⟨w.heap.size, 0, none⟩) 1 1) (w.alloc (.cells #[.int .i64 x1] 3)) := by kernel_rfl
theorem call_18 : callB Tryz.prog 18 = true := by kernel_rfl
theorem call_27 : callB Tryz.prog 27 = true := by kernel_rfl
theorem call_28 : callB Tryz.prog 28 = true := by kernel_rfl
theorem call_29 : callB Tryz.prog 29 = true := by kernel_rfl
theorem call_38 : callB Tryz.prog 38 = true := by kernel_rfl
theorem call_44 : callB Tryz.prog 44 = true := by kernel_rfl
theorem call_45 : callB Tryz.prog 45 = true := by kernel_rfl
theorem one_27 : oneB Tryz.prog 27 = true := by kernel_rfl
theorem one_35 : oneB Tryz.prog 35 = true := by kernel_rfl
theorem row_35 : rowB Tryz.prog 35 3 1 8 = true := by kernel_rfl
theorem sz_27 : szB Tryz.prog 27 1 = true := by kernel_rfl
theorem sz_35 : szB Tryz.prog 35 1 = true := by kernel_rfl
theorem zer_27 : zerL Tryz.prog 27 = some [.int .i64 0] := by kernel_rfl
theorem zer_35 : zerL Tryz.prog 35 = some [.slice none 0 0] := by kernel_rfl
theorem zer_3 : zerL Tryz.prog 3 = some [.int .i64 0] := by kernel_rfl
end Go.Proofs.YtanhhihechakhaaGreatDoor
set_option linter.unusedVariables false
namespace Go.Proofs.YtanhhihechakhaaGreatDoor
open Go.RowKit Go.Proofs.YtanhhihechakhaaGreatDoor.E
theorem call_11 : callB Tryz.prog 11 = true := by kernel_rfl
end Go.Proofs.YtanhhihechakhaaGreatDoor
set_option linter.unusedVariables false
namespace Go.Proofs.YtanhhihechakhaaGreatDoor
open Go.RowKit Go.Proofs.YtanhhihechakhaaGreatDoor.E
theorem agg_171 : aggB Tryz.prog 171 3 = true := by kernel_rfl
theorem agg_208 : aggB Tryz.prog 208 36 = true := by kernel_rfl
theorem arra_208 : arraB Tryz.prog 208 12 207 3 = true := by kernel_rfl
theorem bld_171_0x1x2 {x1 : Int} {x2 : ByteArray} {x3 : ByteArray} (w : World) : (Instr.build 171 #[(0, .int .i64 x1), (1, .string x2), (2, .string x3)]).run Tryz.prog w = .ok (.agg #[.int .i64 x1, .string x2, .string x3]) w := by kernel_rfl
theorem bld_207_0x1x2 {x1 : Int} {x2 : ByteArray} {x3 : Option Addr} {x4 : Nat} {x5 : Nat} (w : World) : (Instr.build 207 #[(0, .int .i64 x1), (1, .string x2), (2, .slice x3 x4 x5)]).run Tryz.prog w = .ok (.agg #[.int .i64 x1, .string x2, .slice x3 x4 x5]) w := by kernel_rfl
theorem bld_208_0x1x2x3x4x5x6x7x8x9x10x11 {x1 : Int} {x2 : ByteArray} {x3 : Option Addr} {x4 : Nat} {x5 : Nat} {x6 : Int} {x7 : ByteArray} {x8 : Option Addr} {x9 : Nat} {x10 : Nat} {x11 : Int} {x12 : ByteArray} {x13 : Option Addr} {x14 : Nat} {x15 : Nat} {x16 : Int} {x17 : ByteArray} {x18 : Option Addr} {x19 : Nat} {x20 : Nat} {x21 : Int} {x22 : ByteArray} {x23 : Option Addr} {x24 : Nat} {x25 : Nat} {x26 : Int} {x27 : ByteArray} {x28 : Option Addr} {x29 : Nat} {x30 : Nat} {x31 : Int} {x32 : ByteArray} {x33 : Option Addr} {x34 : Nat} {x35 : Nat} {x36 : Int} {x37 : ByteArray} {x38 : Option Addr} {x39 : Nat} {x40 : Nat} {x41 : Int} {x42 : ByteArray} {x43 : Option Addr} {x44 : Nat} {x45 : Nat} {x46 : Int} {x47 : ByteArray} {x48 : Option Addr} {x49 : Nat} {x50 : Nat} {x51 : Int} {x52 : ByteArray} {x53 : Option Addr} {x54 : Nat} {x55 : Nat} {x56 : Int} {x57 : ByteArray} {x58 : Option Addr} {x59 : Nat} {x60 : Nat} (w : World) : (Instr.build 208 #[(0, .agg #[.int .i64 x1, .string x2, .slice x3 x4 x5]), (1, .agg #[.int .i64 x6, .string x7, .slice x8 x9 x10]), (2, .agg #[.int .i64 x11, .string x12, .slice x13 x14 x15]), (3, .agg #[.int .i64 x16, .string x17, .slice x18 x19 x20]), (4, .agg #[.int .i64 x21, .string x22, .slice x23 x24 x25]), (5, .agg #[.int .i64 x26, .string x27, .slice x28 x29 x30]), (6, .agg #[.int .i64 x31, .string x32, .slice x33 x34 x35]), (7, .agg #[.int .i64 x36, .string x37, .slice x38 x39 x40]), (8, .agg #[.int .i64 x41, .string x42, .slice x43 x44 x45]), (9, .agg #[.int .i64 x46, .string x47, .slice x48 x49 x50]), (10, .agg #[.int .i64 x51, .string x52, .slice x53 x54 x55]), (11, .agg #[.int .i64 x56, .string x57, .slice x58 x59 x60])]).run Tryz.prog w = .ok (.agg #[.int .i64 x1, .string x2, .slice x3 x4 x5, .int .i64 x6, .string x7, .slice x8 x9 x10, .int .i64 x11, .string x12, .slice x13 x14 x15, .int .i64 x16, .string x17, .slice x18 x19 x20, .int .i64 x21, .string x22, .slice x23 x24 x25, .int .i64 x26, .string x27, .slice x28 x29 x30, .int .i64 x31, .string x32, .slice x33 x34 x35, .int .i64 x36, .string x37, .slice x38 x39 x40, .int .i64 x41, .string x42, .slice x43 x44 x45, .int .i64 x46, .string x47, .slice x48 x49 x50, .int .i64 x51, .string x52, .slice x53 x54 x55, .int .i64 x56, .string x57, .slice x58 x59 x60]) w := by kernel_rfl
theorem bsl_189_1_0 {x1 : Int} {x2 : ByteArray} {x3 : ByteArray} (w : World) : (Instr.buildSlice 189 1 #[(0, .agg #[.int .i64 x1, .string x2, .string x3])]).run Tryz.prog w = .ok (.slice (some ⟨w.heap.size, 0, none⟩) 1 1) (w.alloc (.cells #[.int .i64 x1, .string x2, .string x3] 171)) := by kernel_rfl
theorem bsl_37_12_0x1x2x3x4x5x6x7x8x9x10x11 {x1 : ByteArray} {x2 : ByteArray} {x3 : ByteArray} {x4 : ByteArray} {x5 : ByteArray} {x6 : ByteArray} {x7 : ByteArray} {x8 : ByteArray} {x9 : ByteArray} {x10 : ByteArray} {x11 : ByteArray} {x12 : ByteArray} (w : World) : (Instr.buildSlice 37 12 #[(0, .string x1), (1, .string x2), (2, .string x3), (3, .string x4), (4, .string x5), (5, .string x6), (6, .string x7), (7, .string x8), (8, .string x9), (9, .string x10), (10, .string x11), (11, .string x12)]).run Tryz.prog w = .ok (.slice (some ⟨w.heap.size, 0, none⟩) 12 12) (w.alloc (.cells #[.string x1, .string x2, .string x3, .string x4, .string x5, .string x6, .string x7, .string x8, .string x9, .string x10, .string x11, .string x12] 9)) := by kernel_rfl
theorem bsl_37_3_0x1x2 {x1 : ByteArray} {x2 : ByteArray} {x3 : ByteArray} (w : World) : (Instr.buildSlice 37 3 #[(0, .string x1), (1, .string x2), (2, .string x3)]).run Tryz.prog w = .ok (.slice (some ⟨w.heap.size, 0, none⟩) 3 3) (w.alloc (.cells #[.string x1, .string x2, .string x3] 9)) := by kernel_rfl
theorem call_116 : callB Tryz.prog 116 = true := by kernel_rfl
theorem call_117 : callB Tryz.prog 117 = true := by kernel_rfl
theorem call_129 : callB Tryz.prog 129 = true := by kernel_rfl
theorem els_189 : elsB Tryz.prog 189 171 3 = true := by kernel_rfl
theorem fld_171_0 : fldB Tryz.prog 171 0 0 = true := by kernel_rfl
theorem fld_171_1 : fldB Tryz.prog 171 1 1 = true := by kernel_rfl
theorem fld_171_2 : fldB Tryz.prog 171 2 2 = true := by kernel_rfl
theorem fld_207_0 : fldB Tryz.prog 207 0 0 = true := by kernel_rfl
theorem fld_207_1 : fldB Tryz.prog 207 1 1 = true := by kernel_rfl
theorem fld_207_2 : fldB Tryz.prog 207 2 2 = true := by kernel_rfl
theorem row_189 : rowB Tryz.prog 189 171 3 40 = true := by kernel_rfl
theorem sz_171 : szB Tryz.prog 171 3 = true := by kernel_rfl
theorem sz_207 : szB Tryz.prog 207 3 = true := by kernel_rfl
theorem sz_208 : szB Tryz.prog 208 36 = true := by kernel_rfl
theorem zer_171 : zerL Tryz.prog 171 = some [.int .i64 0, .string ⟨#[]⟩, .string ⟨#[]⟩] := by kernel_rfl
theorem zer_207 : zerL Tryz.prog 207 = some [.int .i64 0, .string ⟨#[]⟩, .slice none 0 0] := by kernel_rfl
theorem zer_208 : zerL Tryz.prog 208 = some [.int .i64 0, .string ⟨#[]⟩, .slice none 0 0, .int .i64 0, .string ⟨#[]⟩, .slice none 0 0, .int .i64 0, .string ⟨#[]⟩, .slice none 0 0, .int .i64 0, .string ⟨#[]⟩, .slice none 0 0, .int .i64 0, .string ⟨#[]⟩, .slice none 0 0, .int .i64 0, .string ⟨#[]⟩, .slice none 0 0, .int .i64 0, .string ⟨#[]⟩, .slice none 0 0, .int .i64 0, .string ⟨#[]⟩, .slice none 0 0, .int .i64 0, .string ⟨#[]⟩, .slice none 0 0, .int .i64 0, .string ⟨#[]⟩, .slice none 0 0, .int .i64 0, .string ⟨#[]⟩, .slice none 0 0, .int .i64 0, .string ⟨#[]⟩, .slice none 0 0] := by kernel_rfl
end Go.Proofs.YtanhhihechakhaaGreatDoor
set_option linter.unusedVariables false
set_option linter.unusedSimpArgs false
namespace Go.Proofs.YtanhhihechakhaaGreatDoor
open Go.RowKit Go.Proofs.YtanhhihechakhaaGreatDoor.E Go.Proofs.YtanhhihechakhaaGreatDoor.OpsP
theorem bes_yes {p : Int} {c : UInt8} (h : ((c.toNat : Int) == 121) = true) : Value.int .i64 p = .int .i64 (bes p c) := by
 have h1 : c.toNat = 121 := by have := eq_of_beq h; omega
 have h2 : c = 121 := UInt8.toNat_inj.1 h1
 simp [bes, h2]
theorem bes_no {p : Int} {c : UInt8} (h : ((c.toNat : Int) == 121) = false) : Value.int .i64 (p - 1) = .int .i64 (bes p c) := by
 have h2 : ¬ c = 121 := by rintro rfl; simp at h
 simp [bes, h2]
def cellsOf (l : List OpT) : List Value := l.flatMap fun o => [.int .i64 o.1, .string ⟨o.2.1.toArray⟩, .string ⟨o.2.2.toArray⟩]
def pre (i : Nat) : List OpT := (rowsL.take i).flatMap fun r => r.2.2.map fun n => (r.1, r.2.1, n)
theorem pre_succ {i : Nat} {p : Int} {ty : List UInt8} {nms : List (List UInt8)} (h : rowsL[i]? = some (p, ty, nms)) : pre (i + 1) = pre i ++ (nms.take nms.length).map fun n => (p, ty, n) := by
 unfold pre
 rw [List.take_add_one, h]
 simp
theorem row_snoc {i j : Nat} {p : Int} {ty nm : List UInt8} {nms : List (List UInt8)} {v : Value} {e : Nat} (h : nms[j]? = some nm) :
    Res.row v e 3 (pre i ++ (nms.take (j + 1)).map fun n => (p, ty, n)).length (cellsOf (pre i ++ (nms.take (j + 1)).map fun n => (p, ty, n))) = Res.row v e 3 ((pre i ++ (nms.take j).map fun n => (p, ty, n)).length + 1) (cellsOf (pre i ++ (nms.take j).map fun n => (p, ty, n)) ++ [.int .i64 p, .string ⟨ty.toArray⟩, .string ⟨nm.toArray⟩]) := by
 rw [List.take_add_one, h]
 simp [cellsOf, List.flatMap_append, Nat.add_assoc]
theorem names_cell {h : Hp} {g j t : Nat} {nms : List (List UInt8)} {nm : List UInt8} (hg : h g = some (.cells (nms.map fun n => Value.string ⟨n.toArray⟩).toArray t (0, 0))) (hn : nms[j]? = some nm) : h.cell ⟨g, 0 + (j : Int).toNat * 1, none⟩ = some (.string ⟨nm.toArray⟩) := by
 simp [Hp.cell, hg, hn]
theorem fld_cell {h : Hp} {g off t : Nat} {cs : List Value} {v : Value} (hg : h g = some (.cells cs.toArray t (0, 0))) (hc : cs[off]? = some v) : h.cell ⟨g, off, none⟩ = some v := by
 simp [Hp.cell, hg, hc]
theorem nms12 {i : Nat} {p : Int} {ty : List UInt8} {nms : List (List UInt8)} (h : rowsL[i]? = some (p, ty, nms)) : nms.length ≤ 12 := by
 have : ∀ r ∈ rowsL, r.2.2.length ≤ 12 := by decide
 exact this _ (List.mem_of_getElem? h)
theorem room3 {i j : Nat} {p : Int} {ty : List UInt8} {nms : List (List UInt8)} (h : rowsL[i]? = some (p, ty, nms)) (hj : j < nms.length) : ((pre i ++ (nms.take j).map fun n => (p, ty, n)).length + 1) * 40 ≤ 140737488355328 := by
 have h1 : nms.length ≤ 12 := by
  have : ∀ r ∈ rowsL, r.2.2.length ≤ 12 := by decide
  exact this _ (List.mem_of_getElem? h)
 have h2 : (pre i).length ≤ 26 := by
  have h4 : i ≤ 12 := by have := (List.getElem?_eq_some_iff.1 h).1; have h5 : rowsL.length = 12 := rfl; omega
  have : ∀ i, i ≤ 12 → (pre i).length ≤ 26 := by decide
  exact this i h4
 have h3 : ((nms.take j).map fun n => (p, ty, n)).length ≤ 12 := by simp; omega
 simp only [List.length_append]
 omega
theorem cellsOf_get {l : List OpT} {i : Nat} {p : Int} {ty nm : List UInt8} (ho : l[i]? = some (p, ty, nm)) {j : Nat} {u : Value} (hj : ([.int .i64 p, .string ⟨ty.toArray⟩, .string ⟨nm.toArray⟩] : List Value)[j]? = some u) : (cellsOf l)[i * 3 + j]? = some u := by
 induction l generalizing i with
 | nil => simp at ho
 | cons x l ih =>
  cases i with
  | zero =>
   simp only [List.getElem?_cons_zero, Option.some.injEq] at ho
   subst ho
   have hlt : j < 3 := (List.getElem?_eq_some_iff.1 hj).1
   simp only [cellsOf, List.flatMap_cons, Nat.zero_mul, Nat.zero_add]
   rw [List.getElem?_append_left (by simpa using hlt)]
   exact hj
  | succ i =>
   have := ih (by simpa using ho)
   simp only [cellsOf, List.flatMap_cons]
   rw [List.getElem?_append_right (by simp; omega)]
   simpa [cellsOf, show (i + 1) * 3 + j - 3 = i * 3 + j by omega] using this
def retF : Option OpT → Value
 | some (p, ty, nm) => .tuple #[.agg #[.int .i64 p, .string ⟨ty.toArray⟩, .string ⟨nm.toArray⟩], .bool true]
 | none => .tuple #[.agg #[.int .i64 0, .string ⟨#[]⟩, .string ⟨#[]⟩], .bool false]
def tup4 (x : Int × Int × Int × Bool) : Value := .tuple #[.int .i64 x.1, .int .i64 x.2.1, .int .i64 x.2.2.1, .bool x.2.2.2]
def tup3 (x : Int × Int × Bool) : Value := .tuple #[.int .i64 x.1, .int .i64 x.2.1, .bool x.2.2]
theorem opsL_len : opsL.length = 26 := by decide
theorem opsL_facts : ∀ o ∈ opsL, 0 < o.1 ∧ o.1 ≤ 2000 := by decide
theorem findL_facts {L : List UInt8} {k : Nat} {p : Int} {ty nm : List UInt8} (h : findL L k = some (p, ty, nm)) : 0 ≤ p ∧ p ≤ 2000 ∧ ty.length = k := by
 have h1 := opsL_facts _ (List.mem_of_find?_eq_some h)
 have h2 := List.find?_some h
 simp only [hit, Bool.and_eq_true, beq_iff_eq] at h2
 exact ⟨by have := h1.1; simp only at this; omega, h1.2, by have := h2.2; omega⟩
section
variable {L : List UInt8} {k : Int} {i : Nat} {p : Int} {ty nm : List UInt8}
theorem take_snoc_false (hpre : ∀ o ∈ opsL.take i, hit L k o = false) (ho : opsL[i]? = some (p, ty, nm)) (h1 : hit L k (p, ty, nm) = false) : ∀ o ∈ opsL.take (i + 1), hit L k o = false := by
 intro o hm
 rw [List.take_add_one, ho] at hm
 rcases List.mem_append.1 hm with hm | hm
 · exact hpre o hm
 · have : o = (p, ty, nm) := by simpa using hm
   rw [this]
   exact h1
theorem find_no1 (hpre : ∀ o ∈ opsL.take i, hit L k o = false) (ho : opsL[i]? = some (p, ty, nm)) (hg : (!((⟨nm.toArray⟩ : ByteArray).data.toList == L)) = true) : ∀ o ∈ opsL.take (i + 1), hit L k o = false :=
 take_snoc_false hpre ho (by simp at hg; simp [hit, hg])
theorem find_no2 (hpre : ∀ o ∈ opsL.take i, hit L k o = false) (ho : opsL[i]? = some (p, ty, nm)) (hc : (((⟨ty.toArray⟩ : ByteArray).size : Int) != k) = true) : ∀ o ∈ opsL.take (i + 1), hit L k o = false :=
 take_snoc_false hpre ho (by
  have h1 : ¬ (ty.length : Int) = k := by simpa [ByteArray.size] using hc
  simp [hit, h1])
theorem find_yes (hpre : ∀ o ∈ opsL.take i, hit L k o = false) (ho : opsL[i]? = some (p, ty, nm)) (hg : (!((⟨nm.toArray⟩ : ByteArray).data.toList == L)) = false) (hc : (((⟨ty.toArray⟩ : ByteArray).size : Int) != k) = false) :
    Ending.returned (.tuple #[.agg [.int .i64 p, .string ⟨ty.toArray⟩, .string ⟨nm.toArray⟩].toArray, .bool (decide (p > 0))]) = .returned (retF (findL L k)) := by
 have h1 : hit L k (p, ty, nm) = true := by
  have h2 : nm = L := by simpa using hg
  have h3 : (ty.length : Int) = k := by simpa [ByteArray.size] using hc
  simp [hit, h2, h3]
 have h4 : findL L k = some (p, ty, nm) := by
  unfold findL
  rw [List.find?_eq_some_iff_getElem]
  obtain ⟨hlt, he⟩ := List.getElem?_eq_some_iff.1 ho
  refine ⟨h1, i, hlt, he, fun j hj => ?_⟩
  have := hpre opsL[j] (List.mem_take_iff_getElem.2 ⟨j, by omega, rfl⟩)
  simp [this]
 have h5 := (opsL_facts _ (List.mem_of_getElem? ho)).1
 simp only at h5
 rw [h4]
 simp [retF, h5]
theorem find_miss (hpre : ∀ o ∈ opsL.take i, hit L k o = false) (hi : i ≤ 26) (hc : decide ((i : Int) < 26) = false) : Ending.returned (.tuple #[.agg [.int .i64 0, .string ⟨#[]⟩, .string ⟨#[]⟩].toArray, .bool (decide ((0 : Int) > 0))]) = .returned (retF (findL L k)) := by
 have h1 : i = 26 := by have := of_decide_eq_false hc; omega
 subst h1
 have h4 : findL L k = none := by
  unfold findL
  rw [List.find?_eq_none]
  intro o ho
  have := hpre o (by rwa [List.take_of_length_le (by decide)])
  simp [this]
 rw [h4]
 rfl
end
set_option maxRecDepth 100000 in
theorem beside_c (p : Int) (ty nm : ByteArray) (c : UInt8) (h : Hp) (h1 : 0 ≤ p) (h2 : p ≤ 2000) : C0 Tryz.prog 117 [.agg #[.int .i64 p, .string ty, .string nm], .int .u8 (c.toNat : Int)] h (.int .i64 (bes p c)) := by
 refine enter0 Tryz.func117 rfl rfl rfl (fun w => ?_)
 refine cy_seq ?_
 refine cy_region ?_
 refine sy_box rfl rfl rfl rfl (fun b2 hb2 hM2 => ?_) (by simp)
 refine sy_assign rfl rfl rfl ?_
 refine sy_nil rfl ?_
 refine ny_next ?_
 refine cy_seq ?_
 refine cy_seq ?_
 refine cy_region ?_
 refine sy_move rfl rfl rfl ?_
 refine sy_cmp rfl rfl rfl rfl rfl ?_
 refine sy_nil rfl ?_
 refine ny_next ?_
 refine cy_cond rfl (fun hc6 => ?_) (fun hc6 => ?_)
 · refine cy_seq ?_
   refine cy_region ?_
   refine sy_field fld_171_0 rfl rfl rfl ?_
   refine sy_ldr 0 one_3 rfl rfl rfl rfl rfl ?_
   refine sy_assign rfl rfl rfl ?_
   refine sy_nil rfl ?_
   refine ny_next ?_
   refine cy_ret ?_
   refine ny_thenR ?_
   refine ny_finR (res1 rfl rfl) (fun w hs => ⟨?_, hs.frm⟩)
   rw [bes_yes hc6]
 · refine cy_skip ?_
   refine ny_next ?_
   refine cy_seq ?_
   refine cy_region ?_
   refine sy_field fld_171_0 rfl rfl rfl ?_
   refine sy_ldr 0 one_3 rfl rfl rfl rfl rfl ?_
   refine sy_subi rfl rfl rfl (by omega) (by omega) rfl rfl ?_
   refine sy_assign rfl rfl rfl ?_
   refine sy_nil rfl ?_
   refine ny_next ?_
   refine cy_ret ?_
   refine ny_finR (res1 rfl rfl) (fun w hs => ⟨?_, hs.frm⟩)
   rw [bes_no hc6]
set_option maxRecDepth 100000 in
theorem all_c (h : Hp) : CX Tryz.prog 129 [] h (fun x : Nat × Nat => .slice (some ⟨x.1, 0, none⟩) 26 x.2) (fun x h' => ∀ j u, (cellsOf opsL)[j]? = some u → h'.cell ⟨x.1, j, none⟩ = some u) := by
 refine enterX Tryz.func129 rfl rfl rfl (fun w => ?_)
 refine cy_seq ?_
 refine cy_region ?_
 refine sy_assign rfl rfl rfl ?_
 refine sy_nil rfl ?_
 refine ny_next ?_
 refine cy_seq ?_
 refine cy_region ?_
 refine sy_buildSlice rfl (fun w => bsl_37_1_0 w) rfl rfl (fun b7 hb7 hM7 => ?_) (by simp)
 refine sy_build rfl (fun w => bld_207_0x1x2 w) rfl rfl ?_
 refine sy_buildSlice rfl (fun w => bsl_37_1_0 w) rfl rfl (fun b9 hb9 hM9 => ?_) (by simp)
 refine sy_build rfl (fun w => bld_207_0x1x2 w) rfl rfl ?_
 refine sy_buildSlice rfl (fun w => bsl_37_1_0 w) rfl rfl (fun b11 hb11 hM11 => ?_) (by simp)
 refine sy_build rfl (fun w => bld_207_0x1x2 w) rfl rfl ?_
 refine sy_buildSlice rfl (fun w => bsl_37_1_0 w) rfl rfl (fun b13 hb13 hM13 => ?_) (by simp)
 refine sy_build rfl (fun w => bld_207_0x1x2 w) rfl rfl ?_
 refine sy_buildSlice rfl (fun w => bsl_37_1_0 w) rfl rfl (fun b15 hb15 hM15 => ?_) (by simp)
 refine sy_build rfl (fun w => bld_207_0x1x2 w) rfl rfl ?_
 refine sy_buildSlice rfl (fun w => bsl_37_1_0 w) rfl rfl (fun b17 hb17 hM17 => ?_) (by simp)
 refine sy_build rfl (fun w => bld_207_0x1x2 w) rfl rfl ?_
 refine sy_buildSlice rfl (fun w => bsl_37_1_0 w) rfl rfl (fun b19 hb19 hM19 => ?_) (by simp)
 refine sy_build rfl (fun w => bld_207_0x1x2 w) rfl rfl ?_
 refine sy_buildSlice rfl (fun w => bsl_37_12_0x1x2x3x4x5x6x7x8x9x10x11 w) rfl rfl (fun b21 hb21 hM21 => ?_) (by simp)
 refine sy_build rfl (fun w => bld_207_0x1x2 w) rfl rfl ?_
 refine sy_buildSlice rfl (fun w => bsl_37_2_0x1 w) rfl rfl (fun b23 hb23 hM23 => ?_) (by simp)
 refine sy_build rfl (fun w => bld_207_0x1x2 w) rfl rfl ?_
 refine sy_buildSlice rfl (fun w => bsl_37_3_0x1x2 w) rfl rfl (fun b25 hb25 hM25 => ?_) (by simp)
 refine sy_build rfl (fun w => bld_207_0x1x2 w) rfl rfl ?_
 refine sy_buildSlice rfl (fun w => bsl_37_1_0 w) rfl rfl (fun b27 hb27 hM27 => ?_) (by simp)
 refine sy_build rfl (fun w => bld_207_0x1x2 w) rfl rfl ?_
 refine sy_buildSlice rfl (fun w => bsl_37_1_0 w) rfl rfl (fun b29 hb29 hM29 => ?_) (by simp)
 refine sy_build rfl (fun w => bld_207_0x1x2 w) rfl rfl ?_
 refine sy_build rfl (fun w => bld_208_0x1x2x3x4x5x6x7x8x9x10x11 w) rfl rfl ?_
 refine sy_alloc zer_208 rfl rfl (fun b1 hb1 hM1 => ?_) (by simp)
 refine sy_stl 0 sz_208 rfl rfl rfl rfl rfl rfl rfl rfl ?_
 refine sy_nil rfl ?_
 refine ny_next ?_
 refine cy_seq ?_
 refine cy_frzAll (fun h' hle hF => ?_)
 have hidx : ∀ i : Nat, i < 12 → ∃ (p : Int) (ty : List UInt8) (g : Nat) (nms : List (List UInt8)), rowsL[i]? = some (p, ty, nms) ∧
     sliceO ((i : Int).toNat * 3) 3 [.int .i64 1200, .string { data := #[120, 102, 120] }, .slice (some ⟨b7, 0, none⟩) 1 1, .int .i64 1200, .string { data := #[102, 120] }, .slice (some ⟨b9, 0, none⟩) 1 1, .int .i64 1150, .string { data := #[120, 102, 120] }, .slice (some ⟨b11, 0, none⟩) 1 1, .int .i64 1100, .string { data := #[120, 102, 121] }, .slice (some ⟨b13, 0, none⟩) 1 1, .int .i64 1050, .string { data := #[120, 102, 121] }, .slice (some ⟨b15, 0, none⟩) 1 1, .int .i64 1000, .string { data := #[120, 102, 121] }, .slice (some ⟨b17, 0, none⟩) 1 1, .int .i64 900, .string { data := #[102, 121] }, .slice (some ⟨b19, 0, none⟩) 1 1, .int .i64 700, .string { data := #[120, 102, 120] }, .slice (some ⟨b21, 0, none⟩) 12 12, .int .i64 500, .string { data := #[121, 102, 120] }, .slice (some ⟨b23, 0, none⟩) 2 2, .int .i64 400, .string { data := #[121, 102, 120] }, .slice (some ⟨b25, 0, none⟩) 3 3, .int .i64 200, .string { data := #[102, 121] }, .slice (some ⟨b27, 0, none⟩) 1 1, .int .i64 190, .string { data := #[120, 102, 120] }, .slice (some ⟨b29, 0, none⟩) 1 1] = some [.int .i64 p, .string ⟨ty.toArray⟩, .slice (some ⟨g, 0, none⟩) nms.length nms.length] ∧ h' g = some (.cells (nms.map fun n => Value.string ⟨n.toArray⟩).toArray 9 (0, 0)) := fun i hi =>
  match i, hi with
  | 0, _ => ⟨_, _, _, _, rfl, rfl, hF _ _ (by repeat (first | exact .head _ | apply List.Mem.tail))⟩
  | 1, _ => ⟨_, _, _, _, rfl, rfl, hF _ _ (by repeat (first | exact .head _ | apply List.Mem.tail))⟩
  | 2, _ => ⟨_, _, _, _, rfl, rfl, hF _ _ (by repeat (first | exact .head _ | apply List.Mem.tail))⟩
  | 3, _ => ⟨_, _, _, _, rfl, rfl, hF _ _ (by repeat (first | exact .head _ | apply List.Mem.tail))⟩
  | 4, _ => ⟨_, _, _, _, rfl, rfl, hF _ _ (by repeat (first | exact .head _ | apply List.Mem.tail))⟩
  | 5, _ => ⟨_, _, _, _, rfl, rfl, hF _ _ (by repeat (first | exact .head _ | apply List.Mem.tail))⟩
  | 6, _ => ⟨_, _, _, _, rfl, rfl, hF _ _ (by repeat (first | exact .head _ | apply List.Mem.tail))⟩
  | 7, _ => ⟨_, _, _, _, rfl, rfl, hF _ _ (by repeat (first | exact .head _ | apply List.Mem.tail))⟩
  | 8, _ => ⟨_, _, _, _, rfl, rfl, hF _ _ (by repeat (first | exact .head _ | apply List.Mem.tail))⟩
  | 9, _ => ⟨_, _, _, _, rfl, rfl, hF _ _ (by repeat (first | exact .head _ | apply List.Mem.tail))⟩
  | 10, _ => ⟨_, _, _, _, rfl, rfl, hF _ _ (by repeat (first | exact .head _ | apply List.Mem.tail))⟩
  | 11, _ => ⟨_, _, _, _, rfl, rfl, hF _ _ (by repeat (first | exact .head _ | apply List.Mem.tail))⟩
  | i + 12, h => absurd h (by omega)
 have h31 : h' b1 = some (.cells [.int .i64 1200, .string { data := #[120, 102, 120] }, .slice (some ⟨b7, 0, none⟩) 1 1, .int .i64 1200, .string { data := #[102, 120] }, .slice (some ⟨b9, 0, none⟩) 1 1, .int .i64 1150, .string { data := #[120, 102, 120] }, .slice (some ⟨b11, 0, none⟩) 1 1, .int .i64 1100, .string { data := #[120, 102, 121] }, .slice (some ⟨b13, 0, none⟩) 1 1, .int .i64 1050, .string { data := #[120, 102, 121] }, .slice (some ⟨b15, 0, none⟩) 1 1, .int .i64 1000, .string { data := #[120, 102, 121] }, .slice (some ⟨b17, 0, none⟩) 1 1, .int .i64 900, .string { data := #[102, 121] }, .slice (some ⟨b19, 0, none⟩) 1 1, .int .i64 700, .string { data := #[120, 102, 120] }, .slice (some ⟨b21, 0, none⟩) 12 12, .int .i64 500, .string { data := #[121, 102, 120] }, .slice (some ⟨b23, 0, none⟩) 2 2, .int .i64 400, .string { data := #[121, 102, 120] }, .slice (some ⟨b25, 0, none⟩) 3 3, .int .i64 200, .string { data := #[102, 121] }, .slice (some ⟨b27, 0, none⟩) 1 1, .int .i64 190, .string { data := #[120, 102, 120] }, .slice (some ⟨b29, 0, none⟩) 1 1].toArray 208 (0, 0)) := hF _ _ (.head _)
 clear hF
 refine cy_region ?_
 refine sy_assign rfl rfl rfl ?_
 refine sy_nil rfl ?_
 refine ny_next ?_
 refine cy_seq ?_
 refine cy_seq ?_
 refine cy_region ?_
 refine sy_ldah agg_208 (vs := [.int .i64 1200, .string { data := #[120, 102, 120] }, .slice (some ⟨b7, 0, none⟩) 1 1, .int .i64 1200, .string { data := #[102, 120] }, .slice (some ⟨b9, 0, none⟩) 1 1, .int .i64 1150, .string { data := #[120, 102, 120] }, .slice (some ⟨b11, 0, none⟩) 1 1, .int .i64 1100, .string { data := #[120, 102, 121] }, .slice (some ⟨b13, 0, none⟩) 1 1, .int .i64 1050, .string { data := #[120, 102, 121] }, .slice (some ⟨b15, 0, none⟩) 1 1, .int .i64 1000, .string { data := #[120, 102, 121] }, .slice (some ⟨b17, 0, none⟩) 1 1, .int .i64 900, .string { data := #[102, 121] }, .slice (some ⟨b19, 0, none⟩) 1 1, .int .i64 700, .string { data := #[120, 102, 120] }, .slice (some ⟨b21, 0, none⟩) 12 12, .int .i64 500, .string { data := #[121, 102, 120] }, .slice (some ⟨b23, 0, none⟩) 2 2, .int .i64 400, .string { data := #[121, 102, 120] }, .slice (some ⟨b25, 0, none⟩) 3 3, .int .i64 200, .string { data := #[102, 121] }, .slice (some ⟨b27, 0, none⟩) 1 1, .int .i64 190, .string { data := #[120, 102, 120] }, .slice (some ⟨b29, 0, none⟩) 1 1]) rfl rfl (fun j u hj => by simp only [Nat.zero_add, Hp.cell, h31]; simpa using hj) rfl rfl ?_
 refine sy_move rfl rfl rfl ?_
 refine sy_nil rfl ?_
 refine ny_next ?_
 refine cy_block ?_
 refine cy_weak (f' := [(2, .slice none 0 0), (32, .agg [.int .i64 1200, .string { data := #[120, 102, 120] }, .slice (some ⟨b7, 0, none⟩) 1 1, .int .i64 1200, .string { data := #[102, 120] }, .slice (some ⟨b9, 0, none⟩) 1 1, .int .i64 1150, .string { data := #[120, 102, 120] }, .slice (some ⟨b11, 0, none⟩) 1 1, .int .i64 1100, .string { data := #[120, 102, 121] }, .slice (some ⟨b13, 0, none⟩) 1 1, .int .i64 1050, .string { data := #[120, 102, 121] }, .slice (some ⟨b15, 0, none⟩) 1 1, .int .i64 1000, .string { data := #[120, 102, 121] }, .slice (some ⟨b17, 0, none⟩) 1 1, .int .i64 900, .string { data := #[102, 121] }, .slice (some ⟨b19, 0, none⟩) 1 1, .int .i64 700, .string { data := #[120, 102, 120] }, .slice (some ⟨b21, 0, none⟩) 12 12, .int .i64 500, .string { data := #[121, 102, 120] }, .slice (some ⟨b23, 0, none⟩) 2 2, .int .i64 400, .string { data := #[121, 102, 120] }, .slice (some ⟨b25, 0, none⟩) 3 3, .int .i64 200, .string { data := #[102, 121] }, .slice (some ⟨b27, 0, none⟩) 1 1, .int .i64 190, .string { data := #[120, 102, 120] }, .slice (some ⟨b29, 0, none⟩) 1 1].toArray), (33, .int .i64 0)]) ⟨rfl, rfl, rfl, trivial⟩ ?_
 refine cy_nilRow 171 3 ?_
 clear h31
 generalize ([.int .i64 1200, .string { data := #[120, 102, 120] }, .slice (some ⟨b7, 0, none⟩) 1 1, .int .i64 1200, .string { data := #[102, 120] }, .slice (some ⟨b9, 0, none⟩) 1 1, .int .i64 1150, .string { data := #[120, 102, 120] }, .slice (some ⟨b11, 0, none⟩) 1 1, .int .i64 1100, .string { data := #[120, 102, 121] }, .slice (some ⟨b13, 0, none⟩) 1 1, .int .i64 1050, .string { data := #[120, 102, 121] }, .slice (some ⟨b15, 0, none⟩) 1 1, .int .i64 1000, .string { data := #[120, 102, 121] }, .slice (some ⟨b17, 0, none⟩) 1 1, .int .i64 900, .string { data := #[102, 121] }, .slice (some ⟨b19, 0, none⟩) 1 1, .int .i64 700, .string { data := #[120, 102, 120] }, .slice (some ⟨b21, 0, none⟩) 12 12, .int .i64 500, .string { data := #[121, 102, 120] }, .slice (some ⟨b23, 0, none⟩) 2 2, .int .i64 400, .string { data := #[121, 102, 120] }, .slice (some ⟨b25, 0, none⟩) 3 3, .int .i64 200, .string { data := #[102, 121] }, .slice (some ⟨b27, 0, none⟩) 1 1, .int .i64 190, .string { data := #[120, 102, 120] }, .slice (some ⟨b29, 0, none⟩) 1 1] : List Value) = CS at hidx ⊢
 refine cy_loop (ι := Nat × Value) (fun x => x.1 ≤ 12) (fun x => 12 - x.1) (fun x => [(2, x.2), (32, .agg CS.toArray), (33, .int .i64 (x.1 : Int))]) (fun _ => h') (fun x => [.row x.2 171 3 (pre x.1).length (cellsOf (pre x.1))]) (0, .slice none 0 0) [0] (Nat.zero_le _) ⟨rfl, rfl, rfl, trivial⟩ rfl rfl ?_
 rintro ⟨i, v⟩ hi
 simp only at hi ⊢
 refine cy_seq ?_
 refine cy_region ?_
 refine sy_cmp rfl rfl rfl rfl rfl ?_
 refine sy_nil rfl ?_
 refine ny_next ?_
 refine cy_seq ?_
 refine cy_cond rfl (fun hc34 => ?_) (fun hc34 => ?_)
 · have hlt : i < 12 := by have := of_decide_eq_true hc34; omega
   obtain ⟨p, ty, g, nms, hrow, hix, hg⟩ := hidx i hlt
   refine cy_skip ?_
   refine ny_next ?_
   refine cy_seq ?_
   refine cy_block ?_
   refine cy_seq ?_
   refine cy_region ?_
   refine sy_idxarr (ik := .i64) (i := (i : Int)) arra_208 rfl rfl (by omega) (by omega) hix rfl rfl ?_
   refine sy_alloc zer_207 rfl rfl (fun b4 hb4 hM4 => ?_) (by simp)
   refine sy_stl 0 sz_207 rfl rfl rfl rfl rfl rfl rfl rfl ?_
   refine sy_nil rfl ?_
   refine ny_next ?_
   refine cy_seq ?_
   refine cy_region ?_
   refine sy_field fld_207_2 rfl rfl rfl ?_
   refine sy_ldr 0 one_37 rfl rfl rfl rfl rfl ?_
   refine sy_len rfl (len_slice Tryz.underlying37 _ _ _) rfl rfl ?_
   refine sy_move rfl rfl rfl ?_
   refine sy_nil rfl ?_
   refine ny_next ?_
   refine cy_block ?_
   refine cy_loop (ι := Nat × Value) (fun x => x.1 ≤ nms.length) (fun x => nms.length - x.1) (fun x => [(2, x.2), (4, .pointer (some ⟨b4, 0, none⟩)), (32, .agg CS.toArray), (33, .int .i64 (i : Int)), (37, .slice (some ⟨g, 0, none⟩) nms.length nms.length), (38, .int .i64 (nms.length : Int)), (39, .int .i64 (x.1 : Int))]) (fun _ => h')
    (fun x => [.blk b4 (.cells [.int .i64 p, .string ⟨ty.toArray⟩, .slice (some ⟨g, 0, none⟩) nms.length nms.length].toArray 207 (0, 0)), .row x.2 171 3 (pre i ++ (nms.take x.1).map fun n => (p, ty, n)).length (cellsOf (pre i ++ (nms.take x.1).map fun n => (p, ty, n)))]) (0, v) [0, 0] (Nat.zero_le _) ⟨rfl, rfl, rfl, rfl, rfl, rfl, rfl, trivial⟩ rfl (by simp [selR, pickR]) ?_
   rintro ⟨j, v'⟩ hj
   simp only at hj ⊢
   refine cy_seq ?_
   refine cy_region ?_
   refine sy_cmp rfl rfl rfl rfl rfl ?_
   refine sy_nil rfl ?_
   refine ny_next ?_
   refine cy_seq ?_
   refine cy_cond rfl (fun hc40 => ?_) (fun hc40 => ?_)
   · have hjl : j < nms.length := by simpa using hc40
     obtain ⟨nm, hnm⟩ : ∃ nm, nms[j]? = some nm := ⟨_, List.getElem?_eq_getElem hjl⟩
     refine cy_skip ?_
     refine ny_next ?_
     refine cy_seq ?_
     refine cy_block ?_
     refine cy_seq ?_
     refine cy_region ?_
     refine sy_idxS (ik := .i64) (i := (j : Int)) els_37 rfl rfl (by omega) (by omega) rfl rfl ?_
     refine sy_ldh one_9 rfl (names_cell hg hnm) rfl rfl ?_
     refine sy_assign rfl rfl rfl ?_
     refine sy_nil rfl ?_
     refine ny_next ?_
     refine cy_region ?_
     refine sy_move rfl rfl rfl ?_
     refine sy_field fld_207_0 rfl rfl rfl ?_
     refine sy_ldr 0 one_3 rfl rfl rfl rfl rfl ?_
     refine sy_field fld_207_1 rfl rfl rfl ?_
     refine sy_ldr 0 one_9 rfl rfl rfl rfl rfl ?_
     refine sy_move rfl rfl rfl ?_
     refine sy_build rfl (fun w => bld_171_0x1x2 w) rfl rfl ?_
     refine sy_buildSlice rfl (fun w => bsl_189_1_0 w) rfl rfl (fun b50 hb50 hM50 => ?_) (by simp)
     refine sy_append 2 0 row_189 (by decide) rfl rfl rfl rfl rfl rfl (room3 hrow hjl) (by have := room3 hrow hjl; simp only [maxLen]; omega) rfl rfl (fun v51 => ?_)
     refine sy_assign rfl rfl rfl ?_
     refine sy_nil rfl ?_
     refine ny_blockN ?_
     refine ny_next ?_
     refine cy_region ?_
     refine sy_addi (z := ((j + 1 : Nat) : Int)) rfl rfl (by omega) (by omega) (by have := nms12 hrow; omega) rfl rfl ?_
     refine sy_move rfl rfl rfl ?_
     refine sy_nil rfl ?_
     refine ny_round (j + 1, v51) [2, 0] ?_ ?_ ⟨rfl, rfl, rfl, rfl, rfl, rfl, rfl, trivial⟩ rfl ?_
     · exact hjl
     · show nms.length - (j + 1) < nms.length - j
       omega
     · show _ = some [_, Res.row v51 _ _ _ _]
       rw [row_snoc hnm]
       rfl
   · have hje : j = nms.length := by simp at hc40; omega
     subst hje
     refine cy_exit ?_
     refine ny_thenE ?_
     refine ny_thenE ?_
     refine ny_blockX ?_
     refine ny_blockN ?_
     refine ny_next ?_
     refine cy_region ?_
     refine sy_addi (z := ((i + 1 : Nat) : Int)) rfl rfl (by omega) (by omega) (by omega) rfl rfl ?_
     refine sy_move rfl rfl rfl ?_
     refine sy_nil rfl ?_
     refine ny_round (i + 1, v') [1] ?_ ?_ ⟨rfl, rfl, rfl, trivial⟩ rfl ?_
     · show i + 1 ≤ 12
       omega
     · show 12 - (i + 1) < 12 - i
       omega
     · rw [pre_succ hrow]
       rfl
 · refine cy_exit ?_
   refine ny_thenE ?_
   refine ny_thenE ?_
   refine ny_blockX ?_
   refine ny_next ?_
   refine cy_seq ?_
   refine cy_region ?_
   refine sy_move rfl rfl rfl ?_
   refine sy_assign rfl rfl rfl ?_
   refine sy_nil rfl ?_
   refine ny_next ?_
   refine cy_ret ?_
   have hie : i = 12 := by have := of_decide_eq_false hc34; omega
   subst hie
   refine ny_finR (res1 rfl rfl) (fun w hs => ?_)
   obtain ⟨A, c, h3, rfl, hc1, hc2, hlen, hle3, hcell, hpos, hs'⟩ := frzRow 0 rfl (by simp) hs
   obtain ⟨g, rfl⟩ := hpos (by decide)
   exact ⟨(g, c), h3, rfl, fun j u hj => by obtain ⟨g', he, hc'⟩ := hcell j u hj; injection he with he; injection he with he; subst he; exact hc', hs'.toGrow⟩
set_option maxRecDepth 100000 in
theorem find_c (s : ByteArray) (k : Int) (h : Hp) : C0 Tryz.prog 116 [.string s, .int .i64 k] h (retF (findL s.data.toList k)) := by
 refine enter0 Tryz.func116 rfl rfl rfl (fun w => ?_)
 refine cy_seq ?_
 refine cy_region ?_
 refine sy_alloc zer_171 rfl rfl (fun b4 hb4 hM4 => ?_) (by simp)
 refine sy_assign rfl rfl rfl ?_
 refine sy_nil rfl ?_
 refine ny_next ?_
 refine cy_scope ?_
 refine cy_seq ?_
 refine cy_region ?_
 refine sy_alloc zer_171 rfl rfl (fun b6 hb6 hM6 => ?_) (by simp)
 refine sy_nil rfl ?_
 refine ny_next ?_
 refine cy_seq ?_
 refine cy_label ?_
 refine ny_next ?_
 refine cy_seq ?_
 refine cy_seq ?_
 refine cy_region ?_
 refine sy_callx call_129 rfl (all_c _) rfl rfl (fun x9 h2 hx9 hle9 => ?_)
 obtain ⟨g, c⟩ := x9
 refine sy_len rfl (len_slice Tryz.underlying189 _ _ _) rfl rfl ?_
 refine sy_move rfl rfl rfl ?_
 refine sy_nil rfl ?_
 refine ny_next ?_
 refine cy_block ?_
 refine cy_loop (ι := Nat) (fun i => i ≤ 26 ∧ ∀ o ∈ opsL.take i, hit s.data.toList k o = false) (fun i => 26 - i) (fun i => [(0, .string s), (1, .int .i64 k), (4, .pointer (some ⟨b4, 0, none⟩)), (5, .bool false), (6, .pointer (some ⟨b6, 0, none⟩)), (9, .slice (some ⟨g, 0, none⟩) 26 c), (10, .int .i64 26), (11, .int .i64 (i : Int))]) (fun _ => h2)
  (fun _ => [.blk b6 (.cells [.int .i64 0, .string ⟨#[]⟩, .string ⟨#[]⟩].toArray 171 (0, 0)), .blk b4 (.cells [.int .i64 0, .string ⟨#[]⟩, .string ⟨#[]⟩].toArray 171 (0, 0))]) 0 [0, 0] ⟨Nat.zero_le _, fun _ ho => (List.not_mem_nil ho).elim⟩ ⟨rfl, rfl, rfl, rfl, rfl, rfl, rfl, rfl, trivial⟩ rfl rfl ?_
 rintro i ⟨hi, hpre⟩
 refine cy_seq ?_
 refine cy_region ?_
 refine sy_cmp rfl rfl rfl rfl rfl ?_
 refine sy_nil rfl ?_
 refine ny_next ?_
 refine cy_seq ?_
 refine cy_cond rfl (fun hc12 => ?_) (fun hc12 => ?_)
 · have hlt : i < 26 := by have := of_decide_eq_true hc12; omega
   obtain ⟨⟨p, ty, nm⟩, ho⟩ : ∃ o, opsL[i]? = some o := ⟨_, List.getElem?_eq_getElem (by rw [opsL_len]; exact hlt)⟩
   refine cy_skip ?_
   refine ny_next ?_
   refine cy_seq ?_
   refine cy_block ?_
   refine cy_seq ?_
   refine cy_region ?_
   refine sy_idxS (ik := .i64) (i := (i : Int)) els_189 rfl rfl (by omega) (by omega) rfl rfl ?_
   refine sy_ldah (vs := [.int .i64 p, .string ⟨ty.toArray⟩, .string ⟨nm.toArray⟩]) agg_171 rfl rfl (fun j u hj => by have := hx9 _ u (cellsOf_get ho hj); simpa using this) rfl rfl ?_
   refine sy_alloc zer_171 rfl rfl (fun b8 hb8 hM8 => ?_) (by simp)
   refine sy_stl 0 sz_171 rfl rfl rfl rfl rfl rfl rfl rfl ?_
   refine sy_nil rfl ?_
   refine ny_next ?_
   refine cy_block ?_
   refine cy_seq ?_
   refine cy_region ?_
   refine sy_field fld_171_2 rfl rfl rfl ?_
   refine sy_ldr 0 one_9 rfl rfl rfl rfl rfl ?_
   refine sy_move rfl rfl rfl ?_
   refine sy_nes rfl rfl rfl rfl ?_
   refine sy_move rfl rfl rfl ?_
   refine sy_cond (d := 21) _ rfl rfl (fun hg21 => ?_) (fun hg21 => ?_)
   · refine sy_skip rfl rfl rfl ?_
     refine sy_skip rfl rfl rfl ?_
     refine sy_skip rfl rfl rfl ?_
     refine sy_skip rfl rfl rfl ?_
     refine sy_skip rfl rfl rfl ?_
     refine sy_pickT rfl rfl rfl rfl ?_
     refine sy_assign rfl rfl rfl ?_
     refine sy_nil rfl ?_
     refine ny_next ?_
     refine cy_condT rfl ?_
     refine cy_exit ?_
     refine ny_blockY rfl ?_
     refine ny_blockX ?_
     refine ny_next ?_
     refine cy_region ?_
     refine sy_addi (z := ((i + 1 : Nat) : Int)) rfl rfl (by omega) (by omega) (by omega) rfl rfl ?_
     refine sy_move rfl rfl rfl ?_
     refine sy_nil rfl ?_
     refine ny_round (i + 1) [1, 1] ⟨by omega, ?_⟩ (show 26 - (i + 1) < 26 - i by omega) ⟨rfl, rfl, rfl, rfl, rfl, rfl, rfl, rfl, trivial⟩ rfl rfl
     exact find_no1 hpre ho hg21
   · refine sy_field fld_171_1 rfl rfl rfl ?_
     refine sy_ldr 0 one_9 rfl rfl rfl rfl rfl ?_
     refine sy_len rfl (len_string Tryz.underlying9 _) rfl rfl ?_
     refine sy_move rfl rfl rfl ?_
     refine sy_cmp rfl rfl rfl rfl rfl ?_
     refine sy_pickF rfl rfl rfl rfl ?_
     refine sy_assign rfl rfl rfl ?_
     refine sy_nil rfl ?_
     refine ny_next ?_
     refine cy_cond rfl (fun hc16 => ?_) (fun hc16 => ?_)
     · refine cy_exit ?_
       refine ny_blockY rfl ?_
       refine ny_blockX ?_
       refine ny_next ?_
       refine cy_region ?_
       refine sy_addi (z := ((i + 1 : Nat) : Int)) rfl rfl (by omega) (by omega) (by omega) rfl rfl ?_
       refine sy_move rfl rfl rfl ?_
       refine sy_nil rfl ?_
       refine ny_round (i + 1) [1, 1] ⟨by omega, ?_⟩ (show 26 - (i + 1) < 26 - i by omega) ⟨rfl, rfl, rfl, rfl, rfl, rfl, rfl, rfl, trivial⟩ rfl rfl
       exact find_no2 hpre ho hc16
     · refine cy_seq ?_
       refine cy_region ?_
       refine sy_ldar 0 agg_171 rfl rfl rfl rfl rfl ?_
       refine sy_stl 1 sz_171 rfl rfl rfl rfl rfl rfl rfl rfl ?_
       refine sy_nil rfl ?_
       refine ny_next ?_
       refine cy_exit ?_
       refine ny_blockY rfl ?_
       refine ny_blockY rfl ?_
       refine ny_thenE ?_
       refine ny_thenE ?_
       refine ny_blockX ?_
       refine ny_next ?_
       refine cy_seq ?_
       refine cy_frz 0 rfl (by simp) (fun h3 hle3 hb6 => ?_)
       refine cy_regionH mixed (by kernel_rfl) ?_
       refine sy_ldah (vs := [.int .i64 _, .string _, .string _]) agg_171 rfl rfl (fun j u hj => by simp only [Hp.cell, hb6, Nat.zero_add]; simpa using hj) rfl rfl ?_
       refine sy_field fld_171_0 rfl rfl rfl ?_
       refine sy_ldh one_3 rfl (fld_cell hb6 rfl) rfl rfl ?_
       refine sy_cmp rfl rfl rfl rfl rfl ?_
       refine sy_stlH 1 (by kernel_rfl) sz_171 rfl rfl rfl rfl rfl rfl rfl rfl ?_
       refine sy_assign rfl rfl rfl ?_
       refine sy_nilH ?_
       refine ny_next ?_
       refine cy_ret ?_
       refine ny_scopeR ?_
       refine ny_finR (resc1 0 rfl agg_171 rfl rfl rfl rfl) (fun w hs => ⟨?_, hs.frm⟩)
       exact find_yes hpre ho hg21 hc16
 · refine cy_exit ?_
   refine ny_thenE ?_
   refine ny_thenE ?_
   refine ny_blockX ?_
   refine ny_next ?_
   refine cy_seq ?_
   refine cy_frz 0 rfl (by simp) (fun h3 hle3 hb6 => ?_)
   refine cy_regionH mixed (by kernel_rfl) ?_
   refine sy_ldah (vs := [.int .i64 _, .string _, .string _]) agg_171 rfl rfl (fun j u hj => by simp only [Hp.cell, hb6, Nat.zero_add]; simpa using hj) rfl rfl ?_
   refine sy_field fld_171_0 rfl rfl rfl ?_
   refine sy_ldh one_3 rfl (fld_cell hb6 rfl) rfl rfl ?_
   refine sy_cmp rfl rfl rfl rfl rfl ?_
   refine sy_stlH 0 (by kernel_rfl) sz_171 rfl rfl rfl rfl rfl rfl rfl rfl ?_
   refine sy_assign rfl rfl rfl ?_
   refine sy_nilH ?_
   refine ny_next ?_
   refine cy_ret ?_
   refine ny_scopeR ?_
   refine ny_finR (resc1 0 rfl agg_171 rfl rfl rfl rfl) (fun w hs => ⟨?_, hs.frm⟩)
   exact find_miss hpre hi hc12
theorem find_n {s : ByteArray} {k : Int} {h : Hp} (hf : findL s.data.toList k = none) : C0 Tryz.prog 116 [.string s, .int .i64 k] h (.tuple #[.agg #[.int .i64 0, .string ⟨#[]⟩, .string ⟨#[]⟩], .bool false]) := by
 have := find_c s k h
 rw [hf] at this
 exact this
theorem find_s {s : ByteArray} {k : Int} {h : Hp} {p : Int} {ty nm : List UInt8} (hf : findL s.data.toList k = some (p, ty, nm)) : C0 Tryz.prog 116 [.string s, .int .i64 k] h (.tuple #[.agg #[.int .i64 p, .string ⟨ty.toArray⟩, .string ⟨nm.toArray⟩], .bool true]) := by
 have := find_c s k h
 rw [hf] at this
 exact this
set_option maxRecDepth 100000 in
theorem infix_n (s : ByteArray) (h : Hp) (hf : findL s.data.toList 3 = none) : C0 Tryz.prog 99 [.string s] h (tup4 (0, 0, 0, false)) := by
 refine enter0 Tryz.func99 rfl rfl rfl (fun w => ?_)
 refine cy_seq ?_
 refine cy_region ?_
 refine sy_assign rfl rfl rfl ?_
 refine sy_assign rfl rfl rfl ?_
 refine sy_assign rfl rfl rfl ?_
 refine sy_assign rfl rfl rfl ?_
 refine sy_nil rfl ?_
 refine ny_next ?_
 refine cy_seq ?_
 refine cy_region ?_
 refine sy_move rfl rfl rfl ?_
 refine sy_call rfl call_116 rfl (find_n hf) rfl rfl ?_
 refine sy_move rfl rfl rfl ?_
 refine sy_extract rfl rfl rfl rfl ?_
 refine sy_extract rfl rfl rfl rfl ?_
 refine sy_alloc zer_171 rfl rfl (fun b6 hb6 hM6 => ?_) (by simp)
 refine sy_stl 0 sz_171 rfl rfl rfl rfl rfl rfl rfl rfl ?_
 refine sy_assign rfl rfl rfl ?_
 refine sy_nil rfl ?_
 refine ny_next ?_
 refine cy_seq ?_
 refine cy_seq ?_
 refine cy_region ?_
 refine sy_move rfl rfl rfl ?_
 refine sy_not rfl rfl rfl ?_
 refine sy_nil rfl ?_
 refine ny_next ?_
 refine cy_cond rfl (fun hc14 => ?_) (fun hc14 => ?_)
 · refine cy_seq ?_
   refine cy_region ?_
   refine sy_assign rfl rfl rfl ?_
   refine sy_assign rfl rfl rfl ?_
   refine sy_assign rfl rfl rfl ?_
   refine sy_assign rfl rfl rfl ?_
   refine sy_nil rfl ?_
   refine ny_next ?_
   refine cy_ret ?_
   refine ny_thenR ?_
   exact ny_finR (res4 rfl rfl rfl rfl rfl) (fun w hs => ⟨rfl, hs.frm⟩)
 · cases hc14
set_option maxRecDepth 100000 in
theorem infix_s (s : ByteArray) (h : Hp) (p : Int) (c0 c1 c2 : UInt8) (nm : List UInt8) (hf : findL s.data.toList 3 = some (p, [c0, c1, c2], nm)) (h1 : 0 ≤ p) (h2 : p ≤ 2000) : C0 Tryz.prog 99 [.string s] h (tup4 (bes p c0, p, bes p c2, true)) := by
 refine enter0 Tryz.func99 rfl rfl rfl (fun w => ?_)
 refine cy_seq ?_
 refine cy_region ?_
 refine sy_assign rfl rfl rfl ?_
 refine sy_assign rfl rfl rfl ?_
 refine sy_assign rfl rfl rfl ?_
 refine sy_assign rfl rfl rfl ?_
 refine sy_nil rfl ?_
 refine ny_next ?_
 refine cy_seq ?_
 refine cy_region ?_
 refine sy_move rfl rfl rfl ?_
 refine sy_call rfl call_116 rfl (find_s hf) rfl rfl ?_
 refine sy_move rfl rfl rfl ?_
 refine sy_extract rfl rfl rfl rfl ?_
 refine sy_extract rfl rfl rfl rfl ?_
 refine sy_alloc zer_171 rfl rfl (fun b6 hb6 hM6 => ?_) (by simp)
 refine sy_stl 0 sz_171 rfl rfl rfl rfl rfl rfl rfl rfl ?_
 refine sy_assign rfl rfl rfl ?_
 refine sy_nil rfl ?_
 refine ny_next ?_
 refine cy_seq ?_
 refine cy_seq ?_
 refine cy_region ?_
 refine sy_move rfl rfl rfl ?_
 refine sy_not rfl rfl rfl ?_
 refine sy_nil rfl ?_
 refine ny_next ?_
 refine cy_cond rfl (fun hc14 => ?_) (fun hc14 => ?_)
 · cases hc14
 · refine cy_skip ?_
   refine ny_next ?_
   refine cy_seq ?_
   refine cy_regionQ mixed (by kernel_rfl) ?_
   refine sy_ldar 0 agg_171 rfl rfl rfl rfl rfl ?_
   refine sy_field fld_171_1 rfl rfl rfl ?_
   refine sy_ldr 0 one_9 rfl rfl rfl rfl rfl ?_
   refine sy_idxs Tryz.underlying9 rfl rfl (by decide) rfl rfl rfl ?_
   refine sy_call rfl call_117 rfl (beside_c _ _ _ _ _ h1 h2) rfl rfl ?_
   refine sy_field fld_171_0 rfl rfl rfl ?_
   refine sy_ldr 0 one_3 rfl rfl rfl rfl rfl ?_
   refine sy_ldar 0 agg_171 rfl rfl rfl rfl rfl ?_
   refine sy_field fld_171_1 rfl rfl rfl ?_
   refine sy_ldr 0 one_9 rfl rfl rfl rfl rfl ?_
   refine sy_idxs Tryz.underlying9 rfl rfl (by decide) rfl rfl rfl ?_
   refine sy_call rfl call_117 rfl (beside_c _ _ _ _ _ h1 h2) rfl rfl ?_
   refine sy_assign rfl rfl rfl ?_
   refine sy_assign rfl rfl rfl ?_
   refine sy_assign rfl rfl rfl ?_
   refine sy_assign rfl rfl rfl ?_
   refine sy_nil rfl ?_
   refine ny_next ?_
   refine cy_ret ?_
   exact ny_finR (res4 rfl rfl rfl rfl rfl) (fun w hs => ⟨rfl, hs.frm⟩)
set_option maxRecDepth 100000 in
theorem prefix_n (s : ByteArray) (h : Hp) (hf : findL s.data.toList 2 = none) : C0 Tryz.prog 127 [.string s] h (tup3 (0, 0, false)) := by
 refine enter0 Tryz.func127 rfl rfl rfl (fun w => ?_)
 refine cy_seq ?_
 refine cy_region ?_
 refine sy_assign rfl rfl rfl ?_
 refine sy_assign rfl rfl rfl ?_
 refine sy_assign rfl rfl rfl ?_
 refine sy_nil rfl ?_
 refine ny_next ?_
 refine cy_seq ?_
 refine cy_region ?_
 refine sy_move rfl rfl rfl ?_
 refine sy_call rfl call_116 rfl (find_n hf) rfl rfl ?_
 refine sy_move rfl rfl rfl ?_
 refine sy_extract rfl rfl rfl rfl ?_
 refine sy_extract rfl rfl rfl rfl ?_
 refine sy_alloc zer_171 rfl rfl (fun b5 hb5 hM5 => ?_) (by simp)
 refine sy_stl 0 sz_171 rfl rfl rfl rfl rfl rfl rfl rfl ?_
 refine sy_assign rfl rfl rfl ?_
 refine sy_nil rfl ?_
 refine ny_next ?_
 refine cy_seq ?_
 refine cy_seq ?_
 refine cy_region ?_
 refine sy_move rfl rfl rfl ?_
 refine sy_not rfl rfl rfl ?_
 refine sy_nil rfl ?_
 refine ny_next ?_
 refine cy_cond rfl (fun hc13 => ?_) (fun hc13 => ?_)
 · refine cy_seq ?_
   refine cy_region ?_
   refine sy_assign rfl rfl rfl ?_
   refine sy_assign rfl rfl rfl ?_
   refine sy_assign rfl rfl rfl ?_
   refine sy_nil rfl ?_
   refine ny_next ?_
   refine cy_ret ?_
   refine ny_thenR ?_
   exact ny_finR (res3 rfl rfl rfl rfl) (fun w hs => ⟨rfl, hs.frm⟩)
 · cases hc13
set_option maxRecDepth 100000 in
theorem prefix_s (s : ByteArray) (h : Hp) (p : Int) (c0 c1 : UInt8) (nm : List UInt8) (hf : findL s.data.toList 2 = some (p, [c0, c1], nm)) (h1 : 0 ≤ p) (h2 : p ≤ 2000) : C0 Tryz.prog 127 [.string s] h (tup3 (p, bes p c1, true)) := by
 refine enter0 Tryz.func127 rfl rfl rfl (fun w => ?_)
 refine cy_seq ?_
 refine cy_region ?_
 refine sy_assign rfl rfl rfl ?_
 refine sy_assign rfl rfl rfl ?_
 refine sy_assign rfl rfl rfl ?_
 refine sy_nil rfl ?_
 refine ny_next ?_
 refine cy_seq ?_
 refine cy_region ?_
 refine sy_move rfl rfl rfl ?_
 refine sy_call rfl call_116 rfl (find_s hf) rfl rfl ?_
 refine sy_move rfl rfl rfl ?_
 refine sy_extract rfl rfl rfl rfl ?_
 refine sy_extract rfl rfl rfl rfl ?_
 refine sy_alloc zer_171 rfl rfl (fun b5 hb5 hM5 => ?_) (by simp)
 refine sy_stl 0 sz_171 rfl rfl rfl rfl rfl rfl rfl rfl ?_
 refine sy_assign rfl rfl rfl ?_
 refine sy_nil rfl ?_
 refine ny_next ?_
 refine cy_seq ?_
 refine cy_seq ?_
 refine cy_region ?_
 refine sy_move rfl rfl rfl ?_
 refine sy_not rfl rfl rfl ?_
 refine sy_nil rfl ?_
 refine ny_next ?_
 refine cy_cond rfl (fun hc13 => ?_) (fun hc13 => ?_)
 · cases hc13
 · refine cy_skip ?_
   refine ny_next ?_
   refine cy_seq ?_
   refine cy_regionQ mixed (by kernel_rfl) ?_
   refine sy_field fld_171_0 rfl rfl rfl ?_
   refine sy_ldr 0 one_3 rfl rfl rfl rfl rfl ?_
   refine sy_ldar 0 agg_171 rfl rfl rfl rfl rfl ?_
   refine sy_field fld_171_1 rfl rfl rfl ?_
   refine sy_ldr 0 one_9 rfl rfl rfl rfl rfl ?_
   refine sy_idxs Tryz.underlying9 rfl rfl (by decide) rfl rfl rfl ?_
   refine sy_call rfl call_117 rfl (beside_c _ _ _ _ _ h1 h2) rfl rfl ?_
   refine sy_assign rfl rfl rfl ?_
   refine sy_assign rfl rfl rfl ?_
   refine sy_assign rfl rfl rfl ?_
   refine sy_nil rfl ?_
   refine ny_next ?_
   refine cy_ret ?_
   exact ny_finR (res3 rfl rfl rfl rfl) (fun w hs => ⟨rfl, hs.frm⟩)
theorem infix_c (s : ByteArray) (h : Hp) : C0 Tryz.prog 99 [.string s] h (tup4 (refInfix s.data.toList)) := by
 rw [← infix_eq]
 unfold infixL
 cases hf : findL s.data.toList 3 with
 | none => exact infix_n s h hf
 | some o =>
  obtain ⟨p, ty, nm⟩ := o
  obtain ⟨h1, h2, h3⟩ := findL_facts hf
  match ty, h3 with
  | [c0, c1, c2], _ => exact infix_s s h p c0 c1 c2 nm hf h1 h2
theorem prefix_c (s : ByteArray) (h : Hp) : C0 Tryz.prog 127 [.string s] h (tup3 (refPrefix s.data.toList)) := by
 rw [← prefix_eq]
 unfold prefixL
 cases hf : findL s.data.toList 2 with
 | none => exact prefix_n s h hf
 | some o =>
  obtain ⟨p, ty, nm⟩ := o
  obtain ⟨h1, h2, h3⟩ := findL_facts hf
  match ty, h3 with
  | [c0, c1], _ => exact prefix_s s h p c0 c1 nm hf h1 h2
end Go.Proofs.YtanhhihechakhaaGreatDoor

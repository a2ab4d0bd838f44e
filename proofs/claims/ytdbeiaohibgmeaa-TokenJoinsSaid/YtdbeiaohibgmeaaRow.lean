/- A law's row out of its contract: it returns true, and of what was there nothing has turned. Conditions: none; plain lemmas. -/
import Derived.Test.YtdbeiaohibgmeaaEngCode
import Derived.ProofKit
import Derived.OpenShut
import Derived.ShutString
import Derived.Carry
namespace Go.Proofs.Ytdbeiaohibgmeaa.E
open Go.ChangeShapes Go.WideShapes Go.ChangeAt Go.RowKit
section
variable {H : Type} {enc : TypeId × Value → H} {P : Program}
theorem trodAll_below (hl : laidOutB P = true) {W W' : World} (hb : Below W.heap.size W W') : ∀ {ts : List TypeId} {vs : List Value} {ds : List (DataW H)} {ps : List MemPlace},
    (∀ t ∈ ts, P.readableRec t = true ∧ t < P.types.size) → DataW.TrodAll enc P W 0 (fun _ => true) true ts vs ds ps → (∀ x ∈ ps, x.block < W.heap.size) → DataW.TrodAll enc P W' 0 (fun b => decide (b < W.heap.size)) true ts vs ds ps
  | [], [], [], _, _, h, _ => h
  | _ :: _, _ :: _, _ :: _, _, hT, ⟨p, q, h1, h2, e⟩, hs => ⟨p, q, Below.trod hl (hT _ (List.mem_cons_self)).1 (hT _ (List.mem_cons_self)).2 h1 hb (fun x hx => hs x (by rw [e]; exact List.mem_append_left _ hx)),
      trodAll_below hl hb (fun t ht => hT t (List.mem_cons_of_mem _ ht)) h2 (fun x hx => hs x (by rw [e]; exact List.mem_append_right _ hx)), e⟩
/-- all parameters' types can be read -/
def paramsB (P : Program) (ts : List TypeId) : Bool := laidOutB P && ts.all fun t => P.readableRec t && decide (t < P.types.size)
theorem law_post {f : Func} {s : ChangeSpec} {W W' : World} {args : Array Value} {ds : List (DataW H)} {before : List MemPlace} {tb : TypeId}
    (hp : paramsB P f.params.toList = true) (hrt : f.resultTypes.toList = [tb]) (hbool : P.underlying tb = some .bool) (hvars : s.vars = []) (hres : (s.fn H ds).results = [.lit (.bool true)]) (hargs : (s.fn H ds).args = ds) (hv : (s.fn H ds).vars = [])
    (hW : DataW.Whole enc P f.params.toList s.vars false W args.toList ds [] before) (hb : Below W.heap.size W W') : s.post enc P f false true false false W args (.bool true) W' := by
  have hlt : ∀ p ∈ before, p.block < W.heap.size := fun p hp => hW.lt p hp
  have hW0 := hW
  obtain ⟨p, q, hA, hV, hpq, _, _⟩ := hW0
  rw [hvars] at hV
  obtain ⟨_, rfl⟩ := trodVars_none hV
  have hpq' : before = p := by simpa using hpq
  subst hpq'
  unfold paramsB at hp
  rw [Bool.and_eq_true] at hp
  have hA' := trodAll_below hp.1 hb (fun t ht => by simpa using List.all_eq_true.1 hp.2 t ht) hA hlt
  have hsz : f.resultTypes.size = 1 := by rw [← Array.length_toList, hrt]; rfl
  refine ⟨ds, [], before, [], before, [], hW, ?_, ?_, ?_, World.keptBut_mono (fun p hp => ⟨hp, ?_⟩) (hb.frame (· ∈ before)), fun h => by cases h⟩
  · rw [List.append_nil, hres, hrt, hsz]
    exact trodAll_cons_mk (shut_bool hbool _) trodAll_mk0
  · rw [List.append_nil, hargs]
    exact hA'
  · rw [List.append_nil, hv, hvars]
    rfl
  · exact Or.inr (by simpa using hp)
end
theorem u8_of_wf {a : Int} (h : (Lit.int .u8 a).wf = true) : ∃ c : UInt8, a = (c.toNat : Int) := by
  have hx : 0 ≤ a ∧ a ≤ 255 := by simpa [Lit.wf, IntKind.min, IntKind.max, IntKind.signed, IntKind.bits] using h
  refine ⟨UInt8.ofNat a.toNat, ?_⟩
  have : a.toNat < 256 := by omega
  rw [UInt8.toNat_ofNat_of_lt' (by simpa using this)]
  omega
end Go.Proofs.Ytdbeiaohibgmeaa.E

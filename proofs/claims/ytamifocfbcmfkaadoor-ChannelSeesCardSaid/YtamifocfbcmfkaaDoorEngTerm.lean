/- A result that lies in a block of its own. Conditions: none; plain lemmas. -/
import Derived.Test.YtamifocfbcmfkaaDoorEngLoop
set_option linter.unusedVariables false
set_option linter.unusedSimpArgs false
namespace Go.Proofs.YtamifocfbcmfkaaDoor.E
open Go.RowKit
section
variable {m : Md} {P : Program} {ops : Array Oper} {Q : Exit → Act → World → Prop} {n : Nat} {D : List Deferred} {w0 : World} {M : List Nat} {h0 : Hp}
variable {f : Tab} {h : Hp} {H : List Res} {rest : List Oper} {o : Oper}
/-- a named result that lies in a block of its own -/
theorem rescS {fn : Func} {t ty e l : Nat} {fr : Nat × Nat} {b : Nat} {cs vs : List Value} {H1 : List Res} (i : Nat) (hr : fn.results = #[.cell t ty]) (hty : aggB P ty l = true) (hv : f.get t = some (.pointer (some ⟨b, 0, none⟩)))
    (hp : pickR i H = some (.blk b (.cells cs.toArray e fr), H1)) (hc : sliceO 0 l cs = some vs) :
    ∀ a w, Holds n [] f a → St w0 M h0 h H w → (results fn a.tmps).run P w = .ok (.agg vs.toArray) w := fun a w ha hs => by
  have h1 := ha.get t _ hv
  have hb : w.heap[b]? = some (.cells cs.toArray e fr) := (hs.swap (pickR_perm hp)).ok _ (List.mem_cons_self)
  obtain ⟨h5, h6⟩ := agg_spec hty w
  obtain ⟨h7, h8⟩ := sliceO_spec hc
  subst h7
  have h3 := run_loadCells_list (P := P) w ⟨b, 0, none⟩ vs (fun j u hj => by
    rw [Addr.add_at]
    have := h8 j u hj
    simp only [Nat.zero_add] at this ⊢
    simp [World.cell?, hb, this])
  simp [results, hr, h1, asAddr, loadVar, h5, h6, h3]
end
theorem one_len {l : Nat} : ((l : Int) == 1) = decide (l = 1) := by
  rw [Bool.eq_iff_iff]
  simp
  omega
end Go.Proofs.YtamifocfbcmfkaaDoor.E

/- errors.Is and errors.As: what package reflectlite's functions answer at the errors of package grant. Conditions: as each says. Printed by a program of this session. -/
import Derived.Test.YtamifocfbcmfkaaDoorProg
import Derived.Test.YtamifocfbcmfkaaDoorEngAs
import Derived.Test.YtamifocfbcmfkaaDoorFactsR
set_option linter.unusedVariables false
set_option linter.unusedSimpArgs false
namespace Go.Proofs.YtamifocfbcmfkaaDoor
open Go.RowKit Go.Extern.Stop Go.Stop Go.Extern Go.Proofs.YtamifocfbcmfkaaDoor.E
theorem typeOfRef (v : Value) (w : World) : (ReflectliteType.typeOf #[.iface 96 v]).run Tryd.prog w = .ok (.iface 135 (.agg #[.pointer (some ⟨4, 96, none⟩)])) w := by kernel_rfl
theorem tofRef (v : Value) (w : World) : (callFunc 77 #[.iface 96 v]).run Tryd.prog w = .ok (.value (.iface 135 (.agg #[.pointer (some ⟨4, 96, none⟩)]))) w := ext_run (e := ReflectliteType.typeOf) Tryd.func77 (by kernel_rfl) (by kernel_rfl) (by kernel_rfl) (by kernel_rfl) (typeOfRef v w)
theorem typeOfE (v : Value) (w : World) : (ReflectliteType.typeOf #[.iface 28 v]).run Tryd.prog w = .ok (.iface 135 (.agg #[.pointer (some ⟨4, 28, none⟩)])) w := by kernel_rfl
theorem tofE (v : Value) (w : World) : (callFunc 77 #[.iface 28 v]).run Tryd.prog w = .ok (.value (.iface 135 (.agg #[.pointer (some ⟨4, 28, none⟩)]))) w := ext_run (e := ReflectliteType.typeOf) Tryd.func77 (by kernel_rfl) (by kernel_rfl) (by kernel_rfl) (by kernel_rfl) (typeOfE v w)
theorem unpackP (t : Addr) (w : World) : (ReflectliteValue.unpack (.iface 104 (.pointer (some t)))).run Tryd.prog w = .ok (.agg #[.pointer (some ⟨4, 104, none⟩), .pointer (some ⟨w.heap.size, 0, none⟩), .int .u64 150]) (w.alloc (.cells #[.pointer (some t)] 104)) := by kernel_rfl
theorem vofP (t : Addr) (w : World) : (callFunc 79 #[.iface 104 (.pointer (some t))]).run Tryd.prog w = .ok (.value (.agg #[.pointer (some ⟨4, 104, none⟩), .pointer (some ⟨w.heap.size, 0, none⟩), .int .u64 150])) (w.alloc (.cells #[.pointer (some t)] 104)) := ext_run (e := (fun args => ReflectliteValue.unpack (args.getD 0 (.tuple #[])))) Tryd.func79 (by kernel_rfl) (by kernel_rfl) (by kernel_rfl) (by kernel_rfl) (unpackP t w)
theorem unpackE (x : Int) (w : World) : (ReflectliteValue.unpack (.iface 28 (.int .i64 x))).run Tryd.prog w = .ok (.agg #[.pointer (some ⟨4, 28, none⟩), .pointer (some ⟨w.heap.size, 0, none⟩), .int .u64 130]) (w.alloc (.cells #[.int .i64 x] 28)) := by kernel_rfl
theorem vofE (x : Int) (w : World) : (callFunc 79 #[.iface 28 (.int .i64 x)]).run Tryd.prog w = .ok (.value (.agg #[.pointer (some ⟨4, 28, none⟩), .pointer (some ⟨w.heap.size, 0, none⟩), .int .u64 130])) (w.alloc (.cells #[.int .i64 x] 28)) := ext_run (e := (fun args => ReflectliteValue.unpack (args.getD 0 (.tuple #[])))) Tryd.func79 (by kernel_rfl) (by kernel_rfl) (by kernel_rfl) (by kernel_rfl) (unpackE x w)
theorem typeP (a : Addr) (w : World) : (ReflectliteValue.methodAny (ReflectliteValue.valueError "reflectlite.Value.Type" 0) (fun t _ _ _ => ReflectliteType.toType t) #[.agg #[.pointer (some ⟨4, 104, none⟩), .pointer (some a), .int .u64 150]]).run Tryd.prog w = .ok (.iface 135 (.agg #[.pointer (some ⟨4, 104, none⟩)])) w := by kernel_rfl
theorem typP (a : Addr) (w : World) : (callFunc 80 #[.agg #[.pointer (some ⟨4, 104, none⟩), .pointer (some a), .int .u64 150]]).run Tryd.prog w = .ok (.value (.iface 135 (.agg #[.pointer (some ⟨4, 104, none⟩)]))) w := ext_run (e := (ReflectliteValue.methodAny (ReflectliteValue.valueError "reflectlite.Value.Type" 0) (fun t _ _ _ => ReflectliteType.toType t))) Tryd.func80 (by kernel_rfl) (by kernel_rfl) (by kernel_rfl) (by kernel_rfl) (typeP a w)
theorem mKindP (w : World) : (Go.method (Tryd.prog.types.size + Made.depth) 135 (.agg #[.pointer (some ⟨4, 104, none⟩)]) "Kind").run Tryd.prog w = .ok (113, .pointer (some ⟨4, 104, none⟩)) w := by kernel_rfl
theorem eKindP (w : World) : ((ReflectliteType.abiMethod fun t => do pure (.int .u8 (← Rtype.kind t))) #[.pointer (some ⟨4, 104, none⟩)]).run Tryd.prog w = .ok (.int .u8 22) w := by kernel_rfl
theorem cKindP (w : World) : (callMethod (.iface 135 (.agg #[.pointer (some ⟨4, 104, none⟩)])) "Kind" #[]).run Tryd.prog w = .ok (.value (.int .u8 22)) w := met_run (mKindP w) (ext_run (e := (ReflectliteType.abiMethod fun t => do pure (.int .u8 (← Rtype.kind t)))) Tryd.func113 (by kernel_rfl) (by kernel_rfl) (by kernel_rfl) (by kernel_rfl) (eKindP w))
theorem mKindE (w : World) : (Go.method (Tryd.prog.types.size + Made.depth) 135 (.agg #[.pointer (some ⟨4, 28, none⟩)]) "Kind").run Tryd.prog w = .ok (113, .pointer (some ⟨4, 28, none⟩)) w := by kernel_rfl
theorem eKindE (w : World) : ((ReflectliteType.abiMethod fun t => do pure (.int .u8 (← Rtype.kind t))) #[.pointer (some ⟨4, 28, none⟩)]).run Tryd.prog w = .ok (.int .u8 2) w := by kernel_rfl
theorem cKindE (w : World) : (callMethod (.iface 135 (.agg #[.pointer (some ⟨4, 28, none⟩)])) "Kind" #[]).run Tryd.prog w = .ok (.value (.int .u8 2)) w := met_run (mKindE w) (ext_run (e := (ReflectliteType.abiMethod fun t => do pure (.int .u8 (← Rtype.kind t)))) Tryd.func113 (by kernel_rfl) (by kernel_rfl) (by kernel_rfl) (by kernel_rfl) (eKindE w))
theorem mElem (w : World) : (Go.method (Tryd.prog.types.size + Made.depth) 135 (.agg #[.pointer (some ⟨4, 104, none⟩)]) "Elem").run Tryd.prog w = .ok (125, .agg #[.pointer (some ⟨4, 104, none⟩)]) w := by kernel_rfl
theorem eElem (w : World) : ((ReflectliteType.method ReflectliteType.elem) #[.agg #[.pointer (some ⟨4, 104, none⟩)]]).run Tryd.prog w = .ok (.iface 135 (.agg #[.pointer (some ⟨4, 28, none⟩)])) w := by kernel_rfl
theorem cElem (w : World) : (callMethod (.iface 135 (.agg #[.pointer (some ⟨4, 104, none⟩)])) "Elem" #[]).run Tryd.prog w = .ok (.value (.iface 135 (.agg #[.pointer (some ⟨4, 28, none⟩)]))) w := met_run (mElem w) (ext_run (e := (ReflectliteType.method ReflectliteType.elem)) Tryd.func125 (by kernel_rfl) (by kernel_rfl) (by kernel_rfl) (by kernel_rfl) (eElem w))
theorem mImp (w : World) : (Go.method (Tryd.prog.types.size + Made.depth) 135 (.agg #[.pointer (some ⟨4, 28, none⟩)]) "Implements").run Tryd.prog w = .ok (126, .agg #[.pointer (some ⟨4, 28, none⟩)]) w := by kernel_rfl
theorem eImp (w : World) : ((ReflectliteType.relation "Implements" ReflectliteType.implements_) #[.agg #[.pointer (some ⟨4, 28, none⟩)], .iface 135 (.agg #[.pointer (some ⟨4, 34, none⟩)])]).run Tryd.prog w = .ok (.bool true) w := by kernel_rfl
theorem cImp (w : World) : (callMethod (.iface 135 (.agg #[.pointer (some ⟨4, 28, none⟩)])) "Implements" #[.iface 135 (.agg #[.pointer (some ⟨4, 34, none⟩)])]).run Tryd.prog w = .ok (.value (.bool true)) w := met_run (mImp w) (ext_run (e := (ReflectliteType.relation "Implements" ReflectliteType.implements_)) Tryd.func126 (by kernel_rfl) (by kernel_rfl) (by kernel_rfl) (by kernel_rfl) (eImp w))
theorem mAssR (w : World) : (Go.method (Tryd.prog.types.size + Made.depth) 135 (.agg #[.pointer (some ⟨4, 96, none⟩)]) "AssignableTo").run Tryd.prog w = .ok (123, .agg #[.pointer (some ⟨4, 96, none⟩)]) w := by kernel_rfl
theorem eAssR (w : World) : ((ReflectliteType.relation "AssignableTo" ReflectliteType.assignableTo) #[.agg #[.pointer (some ⟨4, 96, none⟩)], .iface 135 (.agg #[.pointer (some ⟨4, 28, none⟩)])]).run Tryd.prog w = .ok (.bool false) w := by kernel_rfl
theorem cAssR (w : World) : (callMethod (.iface 135 (.agg #[.pointer (some ⟨4, 96, none⟩)])) "AssignableTo" #[.iface 135 (.agg #[.pointer (some ⟨4, 28, none⟩)])]).run Tryd.prog w = .ok (.value (.bool false)) w := met_run (mAssR w) (ext_run (e := (ReflectliteType.relation "AssignableTo" ReflectliteType.assignableTo)) Tryd.func123 (by kernel_rfl) (by kernel_rfl) (by kernel_rfl) (by kernel_rfl) (eAssR w))
theorem mAssE (w : World) : (Go.method (Tryd.prog.types.size + Made.depth) 135 (.agg #[.pointer (some ⟨4, 28, none⟩)]) "AssignableTo").run Tryd.prog w = .ok (123, .agg #[.pointer (some ⟨4, 28, none⟩)]) w := by kernel_rfl
theorem eAssE (w : World) : ((ReflectliteType.relation "AssignableTo" ReflectliteType.assignableTo) #[.agg #[.pointer (some ⟨4, 28, none⟩)], .iface 135 (.agg #[.pointer (some ⟨4, 28, none⟩)])]).run Tryd.prog w = .ok (.bool true) w := by kernel_rfl
theorem cAssE (w : World) : (callMethod (.iface 135 (.agg #[.pointer (some ⟨4, 28, none⟩)])) "AssignableTo" #[.iface 135 (.agg #[.pointer (some ⟨4, 28, none⟩)])]).run Tryd.prog w = .ok (.value (.bool true)) w := met_run (mAssE w) (ext_run (e := (ReflectliteType.relation "AssignableTo" ReflectliteType.assignableTo)) Tryd.func123 (by kernel_rfl) (by kernel_rfl) (by kernel_rfl) (by kernel_rfl) (eAssE w))
theorem mCmp (w : World) : (Go.method (Tryd.prog.types.size + Made.depth) 135 (.agg #[.pointer (some ⟨4, 28, none⟩)]) "Comparable").run Tryd.prog w = .ok (124, .agg #[.pointer (some ⟨4, 28, none⟩)]) w := by kernel_rfl
theorem eCmp (w : World) : ((ReflectliteType.method fun t => do Rtype.noPackHeld "Comparable" t; pure (.bool (← typeInfo t).comparable)) #[.agg #[.pointer (some ⟨4, 28, none⟩)]]).run Tryd.prog w = .ok (.bool true) w := by kernel_rfl
theorem cCmp (w : World) : (callMethod (.iface 135 (.agg #[.pointer (some ⟨4, 28, none⟩)])) "Comparable" #[]).run Tryd.prog w = .ok (.value (.bool true)) w := met_run (mCmp w) (ext_run (e := (ReflectliteType.method fun t => do Rtype.noPackHeld "Comparable" t; pure (.bool (← typeInfo t).comparable))) Tryd.func124 (by kernel_rfl) (by kernel_rfl) (by kernel_rfl) (by kernel_rfl) (eCmp w))
theorem rlm (z : Sem Value) (f : TypeId → Addr → Nat → Nat → Sem Value) (v : Value) : ReflectliteValue.method z f #[v] = (do match ← ReflectliteValue.parts v with | none => z | some (t, a, fl) => f t a fl (fl % 32)) := rfl
theorem partsP (a : Addr) (w : World) : (ReflectliteValue.parts (.agg #[.pointer (some ⟨4, 104, none⟩), .pointer (some a), .int .u64 150])).run Tryd.prog w = .ok (some (104, a, 150)) w := by kernel_rfl
theorem partsE (a : Addr) (w : World) : (ReflectliteValue.parts (.agg #[.pointer (some ⟨4, 28, none⟩), .pointer (some a), .int .u64 130])).run Tryd.prog w = .ok (some (28, a, 130)) w := by kernel_rfl
theorem partsEa (a : Addr) (w : World) : (ReflectliteValue.parts (.agg #[.pointer (some ⟨4, 28, none⟩), .pointer (some a), .int .u64 386])).run Tryd.prog w = .ok (some (28, a, 386)) w := by kernel_rfl
theorem isNilP (a p : Addr) (W : World) (ha : W.cell? a = some (.pointer (some p))) : (ReflectliteValue.method (ReflectliteValue.valueError "reflectlite.Value.IsNil" 0) ReflectliteValue.isNil #[.agg #[.pointer (some ⟨4, 104, none⟩), .pointer (some a), .int .u64 150]]).run Tryd.prog W = .ok (.bool false) W := by
  rw [rlm]
  simp only [Sem.run_bind, partsP, Result.andThen]
  simp [ReflectliteValue.isNil, loadVar, isAgg, underlying, Tryd.underlying104, ha, Result.andThen]
theorem nilP (a p : Addr) (w : World) (ha : w.cell? a = some (.pointer (some p))) : (callFunc 81 #[.agg #[.pointer (some ⟨4, 104, none⟩), .pointer (some a), .int .u64 150]]).run Tryd.prog w = .ok (.value (.bool false)) w := ext_run (e := (ReflectliteValue.method (ReflectliteValue.valueError "reflectlite.Value.IsNil" 0) ReflectliteValue.isNil)) Tryd.func81 (by kernel_rfl) (by kernel_rfl) (by kernel_rfl) (by kernel_rfl) (isNilP a p w ha)
theorem elemOfP (w : World) : (Rtype.elem? 104).run Tryd.prog w = .ok (some 28) w := by kernel_rfl
theorem mkE (p : Addr) (w : World) : (ReflectliteValue.mk 28 p ReflectliteValue.flagAddr).run Tryd.prog w = .ok (.agg #[.pointer (some ⟨4, 28, none⟩), .pointer (some p), .int .u64 386]) w := by kernel_rfl
theorem elemVP (a p : Addr) (W : World) (ha : W.cell? a = some (.pointer (some p))) : (ReflectliteValue.method (ReflectliteValue.valueError "reflectlite.Value.Elem" 0) ReflectliteValue.elem #[.agg #[.pointer (some ⟨4, 104, none⟩), .pointer (some a), .int .u64 150]]).run Tryd.prog W = .ok (.agg #[.pointer (some ⟨4, 28, none⟩), .pointer (some p), .int .u64 386]) W := by
  rw [rlm]
  simp only [Sem.run_bind, partsP, Result.andThen]
  simp [ReflectliteValue.elem, loadVar, isAgg, underlying, Tryd.underlying104, ha, Result.andThen, elemOfP, mkE]
theorem elmP (a p : Addr) (w : World) (ha : w.cell? a = some (.pointer (some p))) : (callFunc 86 #[.agg #[.pointer (some ⟨4, 104, none⟩), .pointer (some a), .int .u64 150]]).run Tryd.prog w = .ok (.value (.agg #[.pointer (some ⟨4, 28, none⟩), .pointer (some p), .int .u64 386])) w := ext_run (e := (ReflectliteValue.method (ReflectliteValue.valueError "reflectlite.Value.Elem" 0) ReflectliteValue.elem)) Tryd.func86 (by kernel_rfl) (by kernel_rfl) (by kernel_rfl) (by kernel_rfl) (elemVP a p w ha)
theorem rls (v x : Value) : ReflectliteValue.set #[v, x] = (do
    let (some (dst, a, fl), some (src, b, _)) := (← ReflectliteValue.parts v, ← ReflectliteValue.parts x)
      | unsupported (.noEntry "extern/(internal/reflectlite.Value).Set.zeroValue")
    if fl / ReflectliteValue.flagAddr % 2 == 0 then unsupported (.noEntry "extern/(internal/reflectlite.Value).Set.unaddressable")
    let val ← loadVar src b
    if ← Rtype.directlyAssignable dst src then storeVar dst a val
    else if ← Rtype.implements dst src then
      if (← Rtype.kind src) == 20 then
        match val with
        | .nilIface => unsupported (.noEntry "extern/reflectlite: a nil value of one interface type handed on as a value of another")
        | _ => storeVar dst a val
      else storeVar dst a (.iface src val)
    else panicString ("reflectlite.Set: value of type " ++ (← Rtype.spelt src) ++ " is not assignable to type " ++ (← Rtype.spelt dst))
    pure (.tuple #[])) := rfl
theorem directE (w : World) : (Rtype.directlyAssignable 28 28).run Tryd.prog w = .ok true w := by kernel_rfl
theorem sizeE (w : World) : (sizeOf 28).run Tryd.prog w = .ok 1 w := by kernel_rfl
theorem setE (ta b : Addr) (x : Int) (old : Value) (W : World) (hb : W.cell? b = some (.int .i64 x)) (ht : W.cell? ta = some old) (hf : W.frozen? ta = false) :
    (ReflectliteValue.set #[.agg #[.pointer (some ⟨4, 28, none⟩), .pointer (some ta), .int .u64 386], .agg #[.pointer (some ⟨4, 28, none⟩), .pointer (some b), .int .u64 130]]).run Tryd.prog W = .ok (.tuple #[]) (W.setCell ta (.int .i64 x)) := by
  rw [rls]
  simp only [Sem.run_bind, partsEa, partsE, Result.andThen]
  simp [ReflectliteValue.flagAddr, loadVar, isAgg, underlying, Tryd.underlying28, hb, Result.andThen, directE, storeVar, Value.cells, storeCells, Addr.add]
  rw [run_store Tryd.prog W ta _ _ (by rfl)]
  simp [ht, hf]
theorem setX (ta b : Addr) (x : Int) (old : Value) (w : World) (hb : w.cell? b = some (.int .i64 x)) (ht : w.cell? ta = some old) (hf : w.frozen? ta = false) : (callFunc 87 #[.agg #[.pointer (some ⟨4, 28, none⟩), .pointer (some ta), .int .u64 386], .agg #[.pointer (some ⟨4, 28, none⟩), .pointer (some b), .int .u64 130]]).run Tryd.prog w = .ok (.value (.tuple #[])) (w.setCell ta (.int .i64 x)) := ext_run (e := ReflectliteValue.set) Tryd.func87 (by kernel_rfl) (by kernel_rfl) (by kernel_rfl) (by kernel_rfl) (setE ta b x old w hb ht hf)
theorem asRIs (v : Value) (xT : TypeId) (w : World) : (Instr.typeAssert (.iface 96 v) xT 137 true).run Tryd.prog w = .ok (.tuple #[.nilIface, .bool false]) w := run_typeAssert_lacksB Tryd.underlying137 (by kernel_rfl) (by kernel_rfl) v xT w
theorem asRAs (v : Value) (xT : TypeId) (w : World) : (Instr.typeAssert (.iface 96 v) xT 147 true).run Tryd.prog w = .ok (.tuple #[.nilIface, .bool false]) w := run_typeAssert_lacksB Tryd.underlying147 (by kernel_rfl) (by kernel_rfl) v xT w
theorem asRUn (v : Value) (xT : TypeId) (w : World) : (Instr.typeAssert (.iface 96 v) xT 140 true).run Tryd.prog w = .ok (.tuple #[.iface 96 v, .bool true]) w := run_typeAssert_hasB Tryd.underlying140 (by kernel_rfl) v xT w
theorem asRUns (v : Value) (xT : TypeId) (w : World) : (Instr.typeAssert (.iface 96 v) xT 142 true).run Tryd.prog w = .ok (.tuple #[.nilIface, .bool false]) w := run_typeAssert_lacksB Tryd.underlying142 (by kernel_rfl) (by kernel_rfl) v xT w
theorem asEIs (v : Value) (xT : TypeId) (w : World) : (Instr.typeAssert (.iface 28 v) xT 137 true).run Tryd.prog w = .ok (.tuple #[.nilIface, .bool false]) w := run_typeAssert_lacksB Tryd.underlying137 (by kernel_rfl) (by kernel_rfl) v xT w
theorem asEAs (v : Value) (xT : TypeId) (w : World) : (Instr.typeAssert (.iface 28 v) xT 147 true).run Tryd.prog w = .ok (.tuple #[.nilIface, .bool false]) w := run_typeAssert_lacksB Tryd.underlying147 (by kernel_rfl) (by kernel_rfl) v xT w
theorem asEUn (v : Value) (xT : TypeId) (w : World) : (Instr.typeAssert (.iface 28 v) xT 140 true).run Tryd.prog w = .ok (.tuple #[.nilIface, .bool false]) w := run_typeAssert_lacksB Tryd.underlying140 (by kernel_rfl) (by kernel_rfl) v xT w
theorem asEUns (v : Value) (xT : TypeId) (w : World) : (Instr.typeAssert (.iface 28 v) xT 142 true).run Tryd.prog w = .ok (.tuple #[.nilIface, .bool false]) w := run_typeAssert_lacksB Tryd.underlying142 (by kernel_rfl) (by kernel_rfl) v xT w
theorem eqRE (v u : Value) (w : World) : (binOp .eql 34 (.iface 96 v) (.iface 28 u)).run Tryd.prog w = .ok (.bool false) w := run_eql_iface_types 96 28 v u Tryd.underlying34 (by decide) w
theorem eqEE (x y : Int) (w : World) : (binOp .eql 34 (.iface 28 (.int .i64 x)) (.iface 28 (.int .i64 y))).run Tryd.prog w = .ok (.bool (x == y)) w := by kernel_rfl
theorem unwR (s : ByteArray) (e : Int) (w : World) : (callMethod (.iface 96 (.agg #[.string s, .int .i64 e])) "Unwrap" #[]).run Tryd.prog w = .ok (.enter 118 #[.agg #[.string s, .int .i64 e]]) w := by kernel_rfl
end Go.Proofs.YtamifocfbcmfkaaDoor

/-
  errors.As at its three targets: what the model's entries for internal/reflectlite come to, as closed facts.
-/
import Derived.Test.YtjmmagodjpmihaaDoorProg
import Derived.WalkKit
import Derived.LaidEql
import Derived.Stop.Asserts
import Derived.RowKitTokens
import Derived.Lib.Hide
set_option linter.unusedVariables false
namespace Go.Proofs.YtjmmagodjpmihaaDoor.KF
open Go.RowKit Go.Extern.Stop Go.Stop Go.Extern Go.Extern.Rtype

theorem methodKind (h : Value) (w : World) : (Go.method 236 94 (.agg #[h]) "Kind").run Tryd.prog w = .ok (55, h) w := by kernel_rfl
theorem methodElem (h : Value) (w : World) : (Go.method 236 94 (.agg #[h]) "Elem").run Tryd.prog w = .ok (70, .agg #[h]) w := by kernel_rfl
theorem methodImplements (h : Value) (w : World) : (Go.method 236 94 (.agg #[h]) "Implements").run Tryd.prog w = .ok (71, .agg #[h]) w := by kernel_rfl
theorem methodAssignableTo (h : Value) (w : World) : (Go.method 236 94 (.agg #[h]) "AssignableTo").run Tryd.prog w = .ok (68, .agg #[h]) w := by kernel_rfl
theorem methodComparable (h : Value) (w : World) : (Go.method 236 94 (.agg #[h]) "Comparable").run Tryd.prog w = .ok (69, .agg #[h]) w := by kernel_rfl
theorem rlm (z : Sem Value) (f : TypeId → Addr → Nat → Nat → Sem Value) (v : Value) :
    ReflectliteValue.method z f #[v] = (do match ← ReflectliteValue.parts v with | none => z | some (t, a, fl) => f t a fl (fl % 32)) := rfl
theorem rls (v x : Value) : ReflectliteValue.set #[v, x] = (do
    let (some (dst, a, fl), some (src, b, _)) := (← ReflectliteValue.parts v, ← ReflectliteValue.parts x)
      | unsupported (.noEntry "extern/(internal/reflectlite.Value).Set.zeroValue")
    if fl / ReflectliteValue.flagAddr % 2 == 0 then unsupported (.noEntry "extern/(internal/reflectlite.Value).Set.unaddressable")
    let val ← loadVar src b
    if ← Rtype.directlyAssignable dst src then storeVar dst a val
    else if ← Rtype.implements dst src then
      if (← Rtype.kind src) == 20 then
        match val with
        | .nilIface => unsupported (.noEntry "extern/reflectlite: a nil value of one interface type handed on as a value of another")
        | _ => storeVar dst a val
      else storeVar dst a (.iface src val)
    else panicString ("reflectlite.Set: value of type " ++ (← Rtype.spelt src) ++ " is not assignable to type " ++ (← Rtype.spelt dst))
    pure (.tuple #[])) := rfl

/-! ### the target *api.Errno -/
theorem valueOfPE (t : Addr) (w : World) : (ReflectliteValue.unpack (.iface 73 (.pointer (some t)))).run Tryd.prog w = .ok (.agg #[.pointer (some ⟨1, 73, none⟩), .pointer (some ⟨w.heap.size, 0, none⟩), .int .u64 150]) (w.alloc (.cells #[.pointer (some t)] 73)) := by kernel_rfl
theorem typePE (a : Addr) (w : World) : (ReflectliteValue.methodAny (ReflectliteValue.valueError "reflectlite.Value.Type" 0) (fun t _ _ _ => ReflectliteType.toType t) #[(.agg #[.pointer (some ⟨1, 73, none⟩), .pointer (some a), .int .u64 150])]).run Tryd.prog w = .ok (.iface 94 (.agg #[.pointer (some ⟨1, 73, none⟩)])) w := by kernel_rfl
theorem kindPE (w : World) : ((ReflectliteType.abiMethod fun t => (fun a : Nat => Value.int IntKind.u8 (a : Int)) <$> Rtype.kind t) #[.pointer (some ⟨1, 73, none⟩)]).run Tryd.prog w = .ok (.int .u8 22) w := by kernel_rfl
theorem kindEE (w : World) : ((ReflectliteType.abiMethod fun t => (fun a : Nat => Value.int IntKind.u8 (a : Int)) <$> Rtype.kind t) #[.pointer (some ⟨1, 28, none⟩)]).run Tryd.prog w = .ok (.int .u8 2) w := by kernel_rfl
theorem partsPE (a : Addr) (w : World) : (ReflectliteValue.parts (.agg #[.pointer (some ⟨1, 73, none⟩), .pointer (some a), .int .u64 150])).run Tryd.prog w = .ok (some (73, a, 150)) w := by kernel_rfl
theorem isNilPE (a q : Addr) (W : World) (ha : W.cell? a = some (.pointer (some q))) :
    (ReflectliteValue.method (ReflectliteValue.valueError "reflectlite.Value.IsNil" 0) ReflectliteValue.isNil #[(.agg #[.pointer (some ⟨1, 73, none⟩), .pointer (some a), .int .u64 150])]).run Tryd.prog W = .ok (.bool false) W := by
  rw [rlm]
  simp only [Sem.run_bind, partsPE, Result.andThen]
  simp [ReflectliteValue.isNil, loadVar, isAgg, underlying, Tryd.underlying73, ha, Result.andThen]
theorem elemTE (w : World) : (ReflectliteType.method ReflectliteType.elem #[.agg #[.pointer (some ⟨1, 73, none⟩)]]).run Tryd.prog w = .ok (.iface 94 (.agg #[.pointer (some ⟨1, 28, none⟩)])) w := by kernel_rfl
theorem implE (w : World) : (ReflectliteType.relation "Implements" ReflectliteType.implements_ #[.agg #[.pointer (some ⟨1, 28, none⟩)], .iface 94 (.agg #[.pointer (some ⟨1, 26, none⟩)])]).run Tryd.prog w = .ok (.bool true) w := by kernel_rfl
theorem valueOfEE (x : Int) (w : World) : (ReflectliteValue.unpack (.iface 28 (.int .i64 x))).run Tryd.prog w = .ok (.agg #[.pointer (some ⟨1, 28, none⟩), .pointer (some ⟨w.heap.size, 0, none⟩), .int .u64 130]) (w.alloc (.cells #[.int .i64 x] 28)) := by kernel_rfl
theorem elemOfE (w : World) : (Rtype.elem? 73).run Tryd.prog w = .ok (some 28) w := by kernel_rfl
theorem mkE (q : Addr) (w : World) : (ReflectliteValue.mk 28 q ReflectliteValue.flagAddr).run Tryd.prog w = .ok (.agg #[.pointer (some ⟨1, 28, none⟩), .pointer (some q), .int .u64 386]) w := by kernel_rfl
theorem elemVE (a q : Addr) (W : World) (ha : W.cell? a = some (.pointer (some q))) :
    (ReflectliteValue.method (ReflectliteValue.valueError "reflectlite.Value.Elem" 0) ReflectliteValue.elem #[(.agg #[.pointer (some ⟨1, 73, none⟩), .pointer (some a), .int .u64 150])]).run Tryd.prog W = .ok (.agg #[.pointer (some ⟨1, 28, none⟩), .pointer (some q), .int .u64 386]) W := by
  rw [rlm]
  simp only [Sem.run_bind, partsPE, Result.andThen]
  simp [ReflectliteValue.elem, loadVar, isAgg, underlying, Tryd.underlying73, ha, Result.andThen, elemOfE, mkE]
theorem partsAE (a : Addr) (w : World) : (ReflectliteValue.parts (.agg #[.pointer (some ⟨1, 28, none⟩), .pointer (some a), .int .u64 386])).run Tryd.prog w = .ok (some (28, a, 386)) w := by kernel_rfl
theorem partsEE (a : Addr) (w : World) : (ReflectliteValue.parts (.agg #[.pointer (some ⟨1, 28, none⟩), .pointer (some a), .int .u64 130])).run Tryd.prog w = .ok (some (28, a, 130)) w := by kernel_rfl
theorem directE (w : World) : (Rtype.directlyAssignable 28 28).run Tryd.prog w = .ok true w := by kernel_rfl
theorem setE (ta b : Addr) (x : Int) (old : Value) (W : World) (hb : W.cell? b = some (.int .i64 x)) (ht : W.cell? ta = some old) (hf : W.frozen? ta = false) :
    (ReflectliteValue.set #[.agg #[.pointer (some ⟨1, 28, none⟩), .pointer (some ta), .int .u64 386], .agg #[.pointer (some ⟨1, 28, none⟩), .pointer (some b), .int .u64 130]]).run Tryd.prog W = .ok (.tuple #[]) (W.setCell ta (.int .i64 x)) := by
  rw [rls]
  simp only [Sem.run_bind, partsAE, partsEE, Result.andThen]
  simp [ReflectliteValue.flagAddr, loadVar, isAgg, underlying, Tryd.underlying28, hb, Result.andThen, directE, storeVar, Value.cells, storeCells, Addr.add]
  rw [run_store Tryd.prog W ta _ _ (by rfl)]
  simp [ht, hf]
theorem asgE_num (w : World) : (ReflectliteType.relation "AssignableTo" ReflectliteType.assignableTo #[.agg #[.pointer (some ⟨1, 28, none⟩)], .iface 94 (.agg #[.pointer (some ⟨1, 28, none⟩)])]).run Tryd.prog w = .ok (.bool true) w := by kernel_rfl
theorem asgE_fault (w : World) : (ReflectliteType.relation "AssignableTo" ReflectliteType.assignableTo #[.agg #[.pointer (some ⟨1, 23, none⟩)], .iface 94 (.agg #[.pointer (some ⟨1, 28, none⟩)])]).run Tryd.prog w = .ok (.bool false) w := by kernel_rfl
theorem asgE_pair (w : World) : (ReflectliteType.relation "AssignableTo" ReflectliteType.assignableTo #[.agg #[.pointer (some ⟨1, 90, none⟩)], .iface 94 (.agg #[.pointer (some ⟨1, 28, none⟩)])]).run Tryd.prog w = .ok (.bool false) w := by kernel_rfl
theorem asgE_plain (w : World) : (ReflectliteType.relation "AssignableTo" ReflectliteType.assignableTo #[.agg #[.pointer (some ⟨1, 44, none⟩)], .iface 94 (.agg #[.pointer (some ⟨1, 28, none⟩)])]).run Tryd.prog w = .ok (.bool false) w := by kernel_rfl

/-! ### the target **api.Fault -/
theorem valueOfPF (t : Addr) (w : World) : (ReflectliteValue.unpack (.iface 49 (.pointer (some t)))).run Tryd.prog w = .ok (.agg #[.pointer (some ⟨1, 49, none⟩), .pointer (some ⟨w.heap.size, 0, none⟩), .int .u64 150]) (w.alloc (.cells #[.pointer (some t)] 49)) := by kernel_rfl
theorem typePF (a : Addr) (w : World) : (ReflectliteValue.methodAny (ReflectliteValue.valueError "reflectlite.Value.Type" 0) (fun t _ _ _ => ReflectliteType.toType t) #[(.agg #[.pointer (some ⟨1, 49, none⟩), .pointer (some a), .int .u64 150])]).run Tryd.prog w = .ok (.iface 94 (.agg #[.pointer (some ⟨1, 49, none⟩)])) w := by kernel_rfl
theorem kindPF (w : World) : ((ReflectliteType.abiMethod fun t => (fun a : Nat => Value.int IntKind.u8 (a : Int)) <$> Rtype.kind t) #[.pointer (some ⟨1, 49, none⟩)]).run Tryd.prog w = .ok (.int .u8 22) w := by kernel_rfl
theorem kindEF (w : World) : ((ReflectliteType.abiMethod fun t => (fun a : Nat => Value.int IntKind.u8 (a : Int)) <$> Rtype.kind t) #[.pointer (some ⟨1, 23, none⟩)]).run Tryd.prog w = .ok (.int .u8 22) w := by kernel_rfl
theorem partsPF (a : Addr) (w : World) : (ReflectliteValue.parts (.agg #[.pointer (some ⟨1, 49, none⟩), .pointer (some a), .int .u64 150])).run Tryd.prog w = .ok (some (49, a, 150)) w := by kernel_rfl
theorem isNilPF (a q : Addr) (W : World) (ha : W.cell? a = some (.pointer (some q))) :
    (ReflectliteValue.method (ReflectliteValue.valueError "reflectlite.Value.IsNil" 0) ReflectliteValue.isNil #[(.agg #[.pointer (some ⟨1, 49, none⟩), .pointer (some a), .int .u64 150])]).run Tryd.prog W = .ok (.bool false) W := by
  rw [rlm]
  simp only [Sem.run_bind, partsPF, Result.andThen]
  simp [ReflectliteValue.isNil, loadVar, isAgg, underlying, Tryd.underlying49, ha, Result.andThen]
theorem elemTF (w : World) : (ReflectliteType.method ReflectliteType.elem #[.agg #[.pointer (some ⟨1, 49, none⟩)]]).run Tryd.prog w = .ok (.iface 94 (.agg #[.pointer (some ⟨1, 23, none⟩)])) w := by kernel_rfl
theorem implF (w : World) : (ReflectliteType.relation "Implements" ReflectliteType.implements_ #[.agg #[.pointer (some ⟨1, 23, none⟩)], .iface 94 (.agg #[.pointer (some ⟨1, 26, none⟩)])]).run Tryd.prog w = .ok (.bool true) w := by kernel_rfl
theorem valueOfEF (x : Addr) (w : World) : (ReflectliteValue.unpack (.iface 23 (.pointer (some x)))).run Tryd.prog w = .ok (.agg #[.pointer (some ⟨1, 23, none⟩), .pointer (some ⟨w.heap.size, 0, none⟩), .int .u64 150]) (w.alloc (.cells #[.pointer (some x)] 23)) := by kernel_rfl
theorem elemOfF (w : World) : (Rtype.elem? 49).run Tryd.prog w = .ok (some 23) w := by kernel_rfl
theorem mkF (q : Addr) (w : World) : (ReflectliteValue.mk 23 q ReflectliteValue.flagAddr).run Tryd.prog w = .ok (.agg #[.pointer (some ⟨1, 23, none⟩), .pointer (some q), .int .u64 406]) w := by kernel_rfl
theorem elemVF (a q : Addr) (W : World) (ha : W.cell? a = some (.pointer (some q))) :
    (ReflectliteValue.method (ReflectliteValue.valueError "reflectlite.Value.Elem" 0) ReflectliteValue.elem #[(.agg #[.pointer (some ⟨1, 49, none⟩), .pointer (some a), .int .u64 150])]).run Tryd.prog W = .ok (.agg #[.pointer (some ⟨1, 23, none⟩), .pointer (some q), .int .u64 406]) W := by
  rw [rlm]
  simp only [Sem.run_bind, partsPF, Result.andThen]
  simp [ReflectliteValue.elem, loadVar, isAgg, underlying, Tryd.underlying49, ha, Result.andThen, elemOfF, mkF]
theorem partsAF (a : Addr) (w : World) : (ReflectliteValue.parts (.agg #[.pointer (some ⟨1, 23, none⟩), .pointer (some a), .int .u64 406])).run Tryd.prog w = .ok (some (23, a, 406)) w := by kernel_rfl
theorem partsEF (a : Addr) (w : World) : (ReflectliteValue.parts (.agg #[.pointer (some ⟨1, 23, none⟩), .pointer (some a), .int .u64 150])).run Tryd.prog w = .ok (some (23, a, 150)) w := by kernel_rfl
theorem directF (w : World) : (Rtype.directlyAssignable 23 23).run Tryd.prog w = .ok true w := by kernel_rfl
theorem setF (ta b : Addr) (x : Addr) (old : Value) (W : World) (hb : W.cell? b = some (.pointer (some x))) (ht : W.cell? ta = some old) (hf : W.frozen? ta = false) :
    (ReflectliteValue.set #[.agg #[.pointer (some ⟨1, 23, none⟩), .pointer (some ta), .int .u64 406], .agg #[.pointer (some ⟨1, 23, none⟩), .pointer (some b), .int .u64 150]]).run Tryd.prog W = .ok (.tuple #[]) (W.setCell ta (.pointer (some x))) := by
  rw [rls]
  simp only [Sem.run_bind, partsAF, partsEF, Result.andThen]
  simp [ReflectliteValue.flagAddr, loadVar, isAgg, underlying, Tryd.underlying23, hb, Result.andThen, directF, storeVar, Value.cells, storeCells, Addr.add]
  rw [run_store Tryd.prog W ta _ _ (by rfl)]
  simp [ht, hf]
theorem asgF_num (w : World) : (ReflectliteType.relation "AssignableTo" ReflectliteType.assignableTo #[.agg #[.pointer (some ⟨1, 28, none⟩)], .iface 94 (.agg #[.pointer (some ⟨1, 23, none⟩)])]).run Tryd.prog w = .ok (.bool false) w := by kernel_rfl
theorem asgF_fault (w : World) : (ReflectliteType.relation "AssignableTo" ReflectliteType.assignableTo #[.agg #[.pointer (some ⟨1, 23, none⟩)], .iface 94 (.agg #[.pointer (some ⟨1, 23, none⟩)])]).run Tryd.prog w = .ok (.bool true) w := by kernel_rfl
theorem asgF_pair (w : World) : (ReflectliteType.relation "AssignableTo" ReflectliteType.assignableTo #[.agg #[.pointer (some ⟨1, 90, none⟩)], .iface 94 (.agg #[.pointer (some ⟨1, 23, none⟩)])]).run Tryd.prog w = .ok (.bool false) w := by kernel_rfl
theorem asgF_plain (w : World) : (ReflectliteType.relation "AssignableTo" ReflectliteType.assignableTo #[.agg #[.pointer (some ⟨1, 44, none⟩)], .iface 94 (.agg #[.pointer (some ⟨1, 23, none⟩)])]).run Tryd.prog w = .ok (.bool false) w := by kernel_rfl

/-! ### the target **dolmenlaw3.plain -/
theorem valueOfPP (t : Addr) (w : World) : (ReflectliteValue.unpack (.iface 48 (.pointer (some t)))).run Tryd.prog w = .ok (.agg #[.pointer (some ⟨1, 48, none⟩), .pointer (some ⟨w.heap.size, 0, none⟩), .int .u64 150]) (w.alloc (.cells #[.pointer (some t)] 48)) := by kernel_rfl
theorem typePP (a : Addr) (w : World) : (ReflectliteValue.methodAny (ReflectliteValue.valueError "reflectlite.Value.Type" 0) (fun t _ _ _ => ReflectliteType.toType t) #[(.agg #[.pointer (some ⟨1, 48, none⟩), .pointer (some a), .int .u64 150])]).run Tryd.prog w = .ok (.iface 94 (.agg #[.pointer (some ⟨1, 48, none⟩)])) w := by kernel_rfl
theorem kindPP (w : World) : ((ReflectliteType.abiMethod fun t => (fun a : Nat => Value.int IntKind.u8 (a : Int)) <$> Rtype.kind t) #[.pointer (some ⟨1, 48, none⟩)]).run Tryd.prog w = .ok (.int .u8 22) w := by kernel_rfl
theorem kindEP (w : World) : ((ReflectliteType.abiMethod fun t => (fun a : Nat => Value.int IntKind.u8 (a : Int)) <$> Rtype.kind t) #[.pointer (some ⟨1, 44, none⟩)]).run Tryd.prog w = .ok (.int .u8 22) w := by kernel_rfl
theorem partsPP (a : Addr) (w : World) : (ReflectliteValue.parts (.agg #[.pointer (some ⟨1, 48, none⟩), .pointer (some a), .int .u64 150])).run Tryd.prog w = .ok (some (48, a, 150)) w := by kernel_rfl
theorem isNilPP (a q : Addr) (W : World) (ha : W.cell? a = some (.pointer (some q))) :
    (ReflectliteValue.method (ReflectliteValue.valueError "reflectlite.Value.IsNil" 0) ReflectliteValue.isNil #[(.agg #[.pointer (some ⟨1, 48, none⟩), .pointer (some a), .int .u64 150])]).run Tryd.prog W = .ok (.bool false) W := by
  rw [rlm]
  simp only [Sem.run_bind, partsPP, Result.andThen]
  simp [ReflectliteValue.isNil, loadVar, isAgg, underlying, Tryd.underlying48, ha, Result.andThen]
theorem elemTP (w : World) : (ReflectliteType.method ReflectliteType.elem #[.agg #[.pointer (some ⟨1, 48, none⟩)]]).run Tryd.prog w = .ok (.iface 94 (.agg #[.pointer (some ⟨1, 44, none⟩)])) w := by kernel_rfl
theorem implP (w : World) : (ReflectliteType.relation "Implements" ReflectliteType.implements_ #[.agg #[.pointer (some ⟨1, 44, none⟩)], .iface 94 (.agg #[.pointer (some ⟨1, 26, none⟩)])]).run Tryd.prog w = .ok (.bool true) w := by kernel_rfl
theorem valueOfEP (x : Addr) (w : World) : (ReflectliteValue.unpack (.iface 44 (.pointer (some x)))).run Tryd.prog w = .ok (.agg #[.pointer (some ⟨1, 44, none⟩), .pointer (some ⟨w.heap.size, 0, none⟩), .int .u64 150]) (w.alloc (.cells #[.pointer (some x)] 44)) := by kernel_rfl
theorem elemOfP (w : World) : (Rtype.elem? 48).run Tryd.prog w = .ok (some 44) w := by kernel_rfl
theorem mkP (q : Addr) (w : World) : (ReflectliteValue.mk 44 q ReflectliteValue.flagAddr).run Tryd.prog w = .ok (.agg #[.pointer (some ⟨1, 44, none⟩), .pointer (some q), .int .u64 406]) w := by kernel_rfl
theorem elemVP (a q : Addr) (W : World) (ha : W.cell? a = some (.pointer (some q))) :
    (ReflectliteValue.method (ReflectliteValue.valueError "reflectlite.Value.Elem" 0) ReflectliteValue.elem #[(.agg #[.pointer (some ⟨1, 48, none⟩), .pointer (some a), .int .u64 150])]).run Tryd.prog W = .ok (.agg #[.pointer (some ⟨1, 44, none⟩), .pointer (some q), .int .u64 406]) W := by
  rw [rlm]
  simp only [Sem.run_bind, partsPP, Result.andThen]
  simp [ReflectliteValue.elem, loadVar, isAgg, underlying, Tryd.underlying48, ha, Result.andThen, elemOfP, mkP]
theorem partsAP (a : Addr) (w : World) : (ReflectliteValue.parts (.agg #[.pointer (some ⟨1, 44, none⟩), .pointer (some a), .int .u64 406])).run Tryd.prog w = .ok (some (44, a, 406)) w := by kernel_rfl
theorem partsEP (a : Addr) (w : World) : (ReflectliteValue.parts (.agg #[.pointer (some ⟨1, 44, none⟩), .pointer (some a), .int .u64 150])).run Tryd.prog w = .ok (some (44, a, 150)) w := by kernel_rfl
theorem directP (w : World) : (Rtype.directlyAssignable 44 44).run Tryd.prog w = .ok true w := by kernel_rfl
theorem setP (ta b : Addr) (x : Addr) (old : Value) (W : World) (hb : W.cell? b = some (.pointer (some x))) (ht : W.cell? ta = some old) (hf : W.frozen? ta = false) :
    (ReflectliteValue.set #[.agg #[.pointer (some ⟨1, 44, none⟩), .pointer (some ta), .int .u64 406], .agg #[.pointer (some ⟨1, 44, none⟩), .pointer (some b), .int .u64 150]]).run Tryd.prog W = .ok (.tuple #[]) (W.setCell ta (.pointer (some x))) := by
  rw [rls]
  simp only [Sem.run_bind, partsAP, partsEP, Result.andThen]
  simp [ReflectliteValue.flagAddr, loadVar, isAgg, underlying, Tryd.underlying44, hb, Result.andThen, directP, storeVar, Value.cells, storeCells, Addr.add]
  rw [run_store Tryd.prog W ta _ _ (by rfl)]
  simp [ht, hf]
theorem asgP_num (w : World) : (ReflectliteType.relation "AssignableTo" ReflectliteType.assignableTo #[.agg #[.pointer (some ⟨1, 28, none⟩)], .iface 94 (.agg #[.pointer (some ⟨1, 44, none⟩)])]).run Tryd.prog w = .ok (.bool false) w := by kernel_rfl
theorem asgP_fault (w : World) : (ReflectliteType.relation "AssignableTo" ReflectliteType.assignableTo #[.agg #[.pointer (some ⟨1, 23, none⟩)], .iface 94 (.agg #[.pointer (some ⟨1, 44, none⟩)])]).run Tryd.prog w = .ok (.bool false) w := by kernel_rfl
theorem asgP_pair (w : World) : (ReflectliteType.relation "AssignableTo" ReflectliteType.assignableTo #[.agg #[.pointer (some ⟨1, 90, none⟩)], .iface 94 (.agg #[.pointer (some ⟨1, 44, none⟩)])]).run Tryd.prog w = .ok (.bool false) w := by kernel_rfl
theorem asgP_plain (w : World) : (ReflectliteType.relation "AssignableTo" ReflectliteType.assignableTo #[.agg #[.pointer (some ⟨1, 44, none⟩)], .iface 94 (.agg #[.pointer (some ⟨1, 44, none⟩)])]).run Tryd.prog w = .ok (.bool true) w := by kernel_rfl

/-! ### the errors' own types -/
theorem typeOf_num (v : Value) (w : World) : (ReflectliteType.typeOf #[.iface 28 v]).run Tryd.prog w = .ok (.iface 94 (.agg #[.pointer (some ⟨1, 28, none⟩)])) w := by kernel_rfl
theorem noAs_num (v : Value) (xT : TypeId) (w : World) : (Instr.typeAssert (.iface 28 v) xT 103 true).run Tryd.prog w = .ok (.tuple #[.nilIface, .bool false]) w := run_typeAssert_lacksB Tryd.underlying103 (by kernel_rfl) (by kernel_rfl) v xT w
theorem noIs_num (v : Value) (xT : TypeId) (w : World) : (Instr.typeAssert (.iface 28 v) xT 96 true).run Tryd.prog w = .ok (.tuple #[.nilIface, .bool false]) w := run_typeAssert_lacksB Tryd.underlying96 (by kernel_rfl) (by kernel_rfl) v xT w
theorem unwrap_num (v : Value) (xT : TypeId) (w : World) : (Instr.typeAssert (.iface 28 v) xT 86 true).run Tryd.prog w = .ok (.tuple #[.nilIface, .bool false]) w := run_typeAssert_lacksB Tryd.underlying86 (by kernel_rfl) (by kernel_rfl) v xT w
theorem unwraps_num (v : Value) (xT : TypeId) (w : World) : (Instr.typeAssert (.iface 28 v) xT 99 true).run Tryd.prog w = .ok (.tuple #[.nilIface, .bool false]) w := run_typeAssert_lacksB Tryd.underlying99 (by kernel_rfl) (by kernel_rfl) v xT w
theorem typeOf_fault (v : Value) (w : World) : (ReflectliteType.typeOf #[.iface 23 v]).run Tryd.prog w = .ok (.iface 94 (.agg #[.pointer (some ⟨1, 23, none⟩)])) w := by kernel_rfl
theorem noAs_fault (v : Value) (xT : TypeId) (w : World) : (Instr.typeAssert (.iface 23 v) xT 103 true).run Tryd.prog w = .ok (.tuple #[.nilIface, .bool false]) w := run_typeAssert_lacksB Tryd.underlying103 (by kernel_rfl) (by kernel_rfl) v xT w
theorem noIs_fault (v : Value) (xT : TypeId) (w : World) : (Instr.typeAssert (.iface 23 v) xT 96 true).run Tryd.prog w = .ok (.tuple #[.nilIface, .bool false]) w := run_typeAssert_lacksB Tryd.underlying96 (by kernel_rfl) (by kernel_rfl) v xT w
theorem unwrap_fault (v : Value) (xT : TypeId) (w : World) : (Instr.typeAssert (.iface 23 v) xT 86 true).run Tryd.prog w = .ok (.tuple #[.iface 23 v, .bool true]) w := run_typeAssert_hasB Tryd.underlying86 (by kernel_rfl) v xT w
theorem unwraps_fault (v : Value) (xT : TypeId) (w : World) : (Instr.typeAssert (.iface 23 v) xT 99 true).run Tryd.prog w = .ok (.tuple #[.nilIface, .bool false]) w := run_typeAssert_lacksB Tryd.underlying99 (by kernel_rfl) (by kernel_rfl) v xT w
theorem typeOf_pair (v : Value) (w : World) : (ReflectliteType.typeOf #[.iface 90 v]).run Tryd.prog w = .ok (.iface 94 (.agg #[.pointer (some ⟨1, 90, none⟩)])) w := by kernel_rfl
theorem noAs_pair (v : Value) (xT : TypeId) (w : World) : (Instr.typeAssert (.iface 90 v) xT 103 true).run Tryd.prog w = .ok (.tuple #[.nilIface, .bool false]) w := run_typeAssert_lacksB Tryd.underlying103 (by kernel_rfl) (by kernel_rfl) v xT w
theorem noIs_pair (v : Value) (xT : TypeId) (w : World) : (Instr.typeAssert (.iface 90 v) xT 96 true).run Tryd.prog w = .ok (.tuple #[.nilIface, .bool false]) w := run_typeAssert_lacksB Tryd.underlying96 (by kernel_rfl) (by kernel_rfl) v xT w
theorem unwrap_pair (v : Value) (xT : TypeId) (w : World) : (Instr.typeAssert (.iface 90 v) xT 86 true).run Tryd.prog w = .ok (.tuple #[.nilIface, .bool false]) w := run_typeAssert_lacksB Tryd.underlying86 (by kernel_rfl) (by kernel_rfl) v xT w
theorem unwraps_pair (v : Value) (xT : TypeId) (w : World) : (Instr.typeAssert (.iface 90 v) xT 99 true).run Tryd.prog w = .ok (.tuple #[.iface 90 v, .bool true]) w := run_typeAssert_hasB Tryd.underlying99 (by kernel_rfl) v xT w
theorem typeOf_plain (v : Value) (w : World) : (ReflectliteType.typeOf #[.iface 44 v]).run Tryd.prog w = .ok (.iface 94 (.agg #[.pointer (some ⟨1, 44, none⟩)])) w := by kernel_rfl
theorem noAs_plain (v : Value) (xT : TypeId) (w : World) : (Instr.typeAssert (.iface 44 v) xT 103 true).run Tryd.prog w = .ok (.tuple #[.nilIface, .bool false]) w := run_typeAssert_lacksB Tryd.underlying103 (by kernel_rfl) (by kernel_rfl) v xT w
theorem noIs_plain (v : Value) (xT : TypeId) (w : World) : (Instr.typeAssert (.iface 44 v) xT 96 true).run Tryd.prog w = .ok (.tuple #[.nilIface, .bool false]) w := run_typeAssert_lacksB Tryd.underlying96 (by kernel_rfl) (by kernel_rfl) v xT w
theorem unwrap_plain (v : Value) (xT : TypeId) (w : World) : (Instr.typeAssert (.iface 44 v) xT 86 true).run Tryd.prog w = .ok (.tuple #[.nilIface, .bool false]) w := run_typeAssert_lacksB Tryd.underlying86 (by kernel_rfl) (by kernel_rfl) v xT w
theorem unwraps_plain (v : Value) (xT : TypeId) (w : World) : (Instr.typeAssert (.iface 44 v) xT 99 true).run Tryd.prog w = .ok (.tuple #[.nilIface, .bool false]) w := run_typeAssert_lacksB Tryd.underlying99 (by kernel_rfl) (by kernel_rfl) v xT w
theorem methodUnwrapF (p : Value) (w : World) : (Go.method 236 23 p "Unwrap").run Tryd.prog w = .ok (59, p) w := by kernel_rfl
theorem methodUnwrapJ (p : Value) (w : World) : (Go.method 236 90 p "Unwrap").run Tryd.prog w = .ok (66, p) w := by kernel_rfl
theorem isComparable (w : World) : ((Extern.ReflectliteType.method fun t => do noPackHeld "Comparable" t; (fun a => Value.bool a.comparable) <$> typeInfo t) #[.agg #[.pointer (some ⟨1, 28, none⟩)]]).run Tryd.prog w = .ok (.bool true) w := by kernel_rfl
theorem isComp : (Tryd.prog.info? 28).map (·.comparable) = some true := by kernel_rfl
end Go.Proofs.YtjmmagodjpmihaaDoor.KF

-- Printed for this claim by a program of this session's own (it runs the kit's print another way): Lean checks it.
import Derived.Test.YtibdikihgdkfnaaGreatDoorPStox0
namespace Go.Proofs.YtibdikihgdkfnaaGreatDoor.PSto
open Go.RowKit Go.Proofs.YtibdikihgdkfnaaGreatDoorW.PrintWords Go.Proofs.YtibdikihgdkfnaaGreatDoorW.PrintLast Go.Proofs.YtibdikihgdkfnaaGreatDoorW.PrintMore
attribute [local go_sem] max2_int min2_int max_two min_two max_three min_three max_four min_four   -- for this text's walks alone
set_option linter.unusedVariables false
set_option linter.unusedSimpArgs false

/-! ### errors_As: function 55 -/
section
open Go.Extern.Stop Go.Stop Go.Extern
theorem as_rlm (z : Sem Value) (f : TypeId → Addr → Nat → Nat → Sem Value) (v : Value) :
    ReflectliteValue.method z f #[v] = (do match ← ReflectliteValue.parts v with | none => z | some (t, a, fl) => f t a fl (fl % 32)) := rfl
theorem as_rls (v x : Value) : ReflectliteValue.set #[v, x] = (do
    let (some (dst, a, fl), some (src, b, _)) := (← ReflectliteValue.parts v, ← ReflectliteValue.parts x)
      | unsupported (.noEntry "extern/(internal/reflectlite.Value).Set.zeroValue")
    if fl / ReflectliteValue.flagAddr % 2 == 0 then unsupported (.noEntry "extern/(internal/reflectlite.Value).Set.unaddressable")
    let val ← loadVar src b
    if ← Rtype.directlyAssignable dst src then storeVar dst a val
    else if ← Rtype.implements dst src then
      if (← Rtype.kind src) == 20 then
        match val with
        | .nilIface => unsupported (.noEntry "extern/reflectlite: a nil value of one interface type handed on as a value of another")
        | _ => storeVar dst a val
      else storeVar dst a (.iface src val)
    else panicString ("reflectlite.Set: value of type " ++ (← Rtype.spelt src) ++ " is not assignable to type " ++ (← Rtype.spelt dst))
    pure (.tuple #[])) := rfl
theorem as_methodKind (h : Value) (w : World) : (Go.method 555 231 (.agg #[h]) "Kind").run Tryz.prog w = .ok (355, h) w := by kernel_rfl
theorem as_methodElem (h : Value) (w : World) : (Go.method 555 231 (.agg #[h]) "Elem").run Tryz.prog w = .ok (367, .agg #[h]) w := by kernel_rfl
theorem as_methodImplements (h : Value) (w : World) : (Go.method 555 231 (.agg #[h]) "Implements").run Tryz.prog w = .ok (368, .agg #[h]) w := by kernel_rfl
theorem as_methodAssignableTo (h : Value) (w : World) : (Go.method 555 231 (.agg #[h]) "AssignableTo").run Tryz.prog w = .ok (365, .agg #[h]) w := by kernel_rfl
/-- errors.As(nil, target). -/
theorem as_nil (t : Value) (w : World) :
    Calls Tryz.prog 55 #[.nilIface, t] w fun e w' => e = .returned (.bool false) ∧ w = w' := by
  go_enter Tryz.func55, Tryz.ntmps55
  go_wp2
  go_ret
  exact ⟨rfl, rfl⟩

theorem asF_valueOfP (t : Addr) (w : World) : (ReflectliteValue.unpack (.iface 344 (.pointer (some t)))).run Tryz.prog w
    = .ok (.agg #[.pointer (some ⟨6, 344, none⟩), .pointer (some ⟨w.heap.size, 0, none⟩), .int .u64 150]) (w.alloc (.cells #[.pointer (some t)] 344)) := by kernel_rfl
theorem asF_typeP (a : Addr) (w : World) : (ReflectliteValue.methodAny (ReflectliteValue.valueError "reflectlite.Value.Type" 0) (fun t _ _ _ => ReflectliteType.toType t) #[.agg #[.pointer (some ⟨6, 344, none⟩), .pointer (some a), .int .u64 150]]).run Tryz.prog w
    = .ok (.iface 231 (.agg #[.pointer (some ⟨6, 344, none⟩)])) w := by kernel_rfl
theorem asF_kindP (w : World) : ((ReflectliteType.abiMethod fun t => (fun a : Nat => Value.int IntKind.u8 (a : Int)) <$> Rtype.kind t) #[.pointer (some ⟨6, 344, none⟩)]).run Tryz.prog w = .ok (.int .u8 22) w := by kernel_rfl
theorem asF_kindT (w : World) : ((ReflectliteType.abiMethod fun t => (fun a : Nat => Value.int IntKind.u8 (a : Int)) <$> Rtype.kind t) #[.pointer (some ⟨6, 313, none⟩)]).run Tryz.prog w = .ok (.int .u8 22) w := by kernel_rfl
theorem asF_partsP (a : Addr) (w : World) : (ReflectliteValue.parts (.agg #[.pointer (some ⟨6, 344, none⟩), .pointer (some a), .int .u64 150])).run Tryz.prog w = .ok (some (344, a, 150)) w := by kernel_rfl
theorem asF_isNilP (a p : Addr) (W : World) (ha : W.cell? a = some (.pointer (some p))) :
    (ReflectliteValue.method (ReflectliteValue.valueError "reflectlite.Value.IsNil" 0) ReflectliteValue.isNil #[.agg #[.pointer (some ⟨6, 344, none⟩), .pointer (some a), .int .u64 150]]).run Tryz.prog W = .ok (.bool false) W := by
  rw [as_rlm]
  simp only [Sem.run_bind, asF_partsP, Result.andThen]
  simp [ReflectliteValue.isNil, loadVar, isAgg, underlying, Tryz.underlying344, ha, Result.andThen]
theorem asF_elemP (w : World) : (ReflectliteType.method ReflectliteType.elem #[.agg #[.pointer (some ⟨6, 344, none⟩)]]).run Tryz.prog w = .ok (.iface 231 (.agg #[.pointer (some ⟨6, 313, none⟩)])) w := by kernel_rfl
theorem asF_implT (w : World) : (ReflectliteType.relation "Implements" ReflectliteType.implements_ #[.agg #[.pointer (some ⟨6, 313, none⟩)], .iface 231 (.agg #[.pointer (some ⟨6, 57, none⟩)])]).run Tryz.prog w = .ok (.bool true) w := by kernel_rfl
theorem asF_typeOfT (v : Value) (w : World) : (ReflectliteType.typeOf #[.iface 313 v]).run Tryz.prog w = .ok (.iface 231 (.agg #[.pointer (some ⟨6, 313, none⟩)])) w := by kernel_rfl
theorem asF_assignT (w : World) : (ReflectliteType.relation "AssignableTo" ReflectliteType.assignableTo #[.agg #[.pointer (some ⟨6, 313, none⟩)], .iface 231 (.agg #[.pointer (some ⟨6, 313, none⟩)])]).run Tryz.prog w = .ok (.bool true) w := by kernel_rfl
theorem asF_valueOfT (e : Addr) (w : World) : (ReflectliteValue.unpack (.iface 313 (.pointer (some e)))).run Tryz.prog w
    = .ok (.agg #[.pointer (some ⟨6, 313, none⟩), .pointer (some ⟨w.heap.size, 0, none⟩), .int .u64 150]) (w.alloc (.cells #[.pointer (some e)] 313)) := by kernel_rfl
theorem asF_elemOfP (w : World) : (Rtype.elem? 344).run Tryz.prog w = .ok (some 313) w := by kernel_rfl
theorem asF_mkT (p : Addr) (w : World) : (ReflectliteValue.mk 313 p ReflectliteValue.flagAddr).run Tryz.prog w = .ok (.agg #[.pointer (some ⟨6, 313, none⟩), .pointer (some p), .int .u64 406]) w := by kernel_rfl
theorem asF_elemV (a p : Addr) (W : World) (ha : W.cell? a = some (.pointer (some p))) :
    (ReflectliteValue.method (ReflectliteValue.valueError "reflectlite.Value.Elem" 0) ReflectliteValue.elem #[.agg #[.pointer (some ⟨6, 344, none⟩), .pointer (some a), .int .u64 150]]).run Tryz.prog W
      = .ok (.agg #[.pointer (some ⟨6, 313, none⟩), .pointer (some p), .int .u64 406]) W := by
  rw [as_rlm]
  simp only [Sem.run_bind, asF_partsP, Result.andThen]
  simp [ReflectliteValue.elem, loadVar, isAgg, underlying, Tryz.underlying344, ha, Result.andThen, asF_elemOfP, asF_mkT]
theorem asF_partsTa (a : Addr) (w : World) : (ReflectliteValue.parts (.agg #[.pointer (some ⟨6, 313, none⟩), .pointer (some a), .int .u64 406])).run Tryz.prog w = .ok (some (313, a, 406)) w := by kernel_rfl
theorem asF_partsT (a : Addr) (w : World) : (ReflectliteValue.parts (.agg #[.pointer (some ⟨6, 313, none⟩), .pointer (some a), .int .u64 150])).run Tryz.prog w = .ok (some (313, a, 150)) w := by kernel_rfl
theorem asF_direct (w : World) : (Rtype.directlyAssignable 313 313).run Tryz.prog w = .ok true w := by kernel_rfl
theorem asF_set (ta b : Addr) (e : Addr) (old : Value) (W : World) (hb : W.cell? b = some (.pointer (some e))) (ht : W.cell? ta = some old) (hf : W.frozen? ta = false) :
    (ReflectliteValue.set #[.agg #[.pointer (some ⟨6, 313, none⟩), .pointer (some ta), .int .u64 406], .agg #[.pointer (some ⟨6, 313, none⟩), .pointer (some b), .int .u64 150]]).run Tryz.prog W
      = .ok (.tuple #[]) (W.setCell ta (.pointer (some e))) := by
  rw [as_rls]
  simp only [Sem.run_bind, asF_partsTa, asF_partsT, Result.andThen]
  simp [ReflectliteValue.flagAddr, loadVar, isAgg, underlying, Tryz.underlying313, hb, Result.andThen, asF_direct, storeVar, Value.cells, storeCells, Addr.add]
  rw [run_store Tryz.prog W ta _ _ (by rfl)]
  simp [ht, hf]

theorem asC_valueOfP (t : Addr) (w : World) : (ReflectliteValue.unpack (.iface 345 (.pointer (some t)))).run Tryz.prog w
    = .ok (.agg #[.pointer (some ⟨6, 345, none⟩), .pointer (some ⟨w.heap.size, 0, none⟩), .int .u64 150]) (w.alloc (.cells #[.pointer (some t)] 345)) := by kernel_rfl
theorem asC_typeP (a : Addr) (w : World) : (ReflectliteValue.methodAny (ReflectliteValue.valueError "reflectlite.Value.Type" 0) (fun t _ _ _ => ReflectliteType.toType t) #[.agg #[.pointer (some ⟨6, 345, none⟩), .pointer (some a), .int .u64 150]]).run Tryz.prog w
    = .ok (.iface 231 (.agg #[.pointer (some ⟨6, 345, none⟩)])) w := by kernel_rfl
theorem asC_kindP (w : World) : ((ReflectliteType.abiMethod fun t => (fun a : Nat => Value.int IntKind.u8 (a : Int)) <$> Rtype.kind t) #[.pointer (some ⟨6, 345, none⟩)]).run Tryz.prog w = .ok (.int .u8 22) w := by kernel_rfl
theorem asC_kindT (w : World) : ((ReflectliteType.abiMethod fun t => (fun a : Nat => Value.int IntKind.u8 (a : Int)) <$> Rtype.kind t) #[.pointer (some ⟨6, 31, none⟩)]).run Tryz.prog w = .ok (.int .u8 2) w := by kernel_rfl
theorem asC_partsP (a : Addr) (w : World) : (ReflectliteValue.parts (.agg #[.pointer (some ⟨6, 345, none⟩), .pointer (some a), .int .u64 150])).run Tryz.prog w = .ok (some (345, a, 150)) w := by kernel_rfl
theorem asC_isNilP (a p : Addr) (W : World) (ha : W.cell? a = some (.pointer (some p))) :
    (ReflectliteValue.method (ReflectliteValue.valueError "reflectlite.Value.IsNil" 0) ReflectliteValue.isNil #[.agg #[.pointer (some ⟨6, 345, none⟩), .pointer (some a), .int .u64 150]]).run Tryz.prog W = .ok (.bool false) W := by
  rw [as_rlm]
  simp only [Sem.run_bind, asC_partsP, Result.andThen]
  simp [ReflectliteValue.isNil, loadVar, isAgg, underlying, Tryz.underlying345, ha, Result.andThen]
theorem asC_elemP (w : World) : (ReflectliteType.method ReflectliteType.elem #[.agg #[.pointer (some ⟨6, 345, none⟩)]]).run Tryz.prog w = .ok (.iface 231 (.agg #[.pointer (some ⟨6, 31, none⟩)])) w := by kernel_rfl
theorem asC_implT (w : World) : (ReflectliteType.relation "Implements" ReflectliteType.implements_ #[.agg #[.pointer (some ⟨6, 31, none⟩)], .iface 231 (.agg #[.pointer (some ⟨6, 57, none⟩)])]).run Tryz.prog w = .ok (.bool true) w := by kernel_rfl
theorem asC_typeOfT (v : Value) (w : World) : (ReflectliteType.typeOf #[.iface 31 v]).run Tryz.prog w = .ok (.iface 231 (.agg #[.pointer (some ⟨6, 31, none⟩)])) w := by kernel_rfl
theorem asC_assignT (w : World) : (ReflectliteType.relation "AssignableTo" ReflectliteType.assignableTo #[.agg #[.pointer (some ⟨6, 31, none⟩)], .iface 231 (.agg #[.pointer (some ⟨6, 31, none⟩)])]).run Tryz.prog w = .ok (.bool true) w := by kernel_rfl
theorem asC_valueOfT (e : Int) (w : World) : (ReflectliteValue.unpack (.iface 31 (.int .i64 e))).run Tryz.prog w
    = .ok (.agg #[.pointer (some ⟨6, 31, none⟩), .pointer (some ⟨w.heap.size, 0, none⟩), .int .u64 130]) (w.alloc (.cells #[.int .i64 e] 31)) := by kernel_rfl
theorem asC_elemOfP (w : World) : (Rtype.elem? 345).run Tryz.prog w = .ok (some 31) w := by kernel_rfl
theorem asC_mkT (p : Addr) (w : World) : (ReflectliteValue.mk 31 p ReflectliteValue.flagAddr).run Tryz.prog w = .ok (.agg #[.pointer (some ⟨6, 31, none⟩), .pointer (some p), .int .u64 386]) w := by kernel_rfl
theorem asC_elemV (a p : Addr) (W : World) (ha : W.cell? a = some (.pointer (some p))) :
    (ReflectliteValue.method (ReflectliteValue.valueError "reflectlite.Value.Elem" 0) ReflectliteValue.elem #[.agg #[.pointer (some ⟨6, 345, none⟩), .pointer (some a), .int .u64 150]]).run Tryz.prog W
      = .ok (.agg #[.pointer (some ⟨6, 31, none⟩), .pointer (some p), .int .u64 386]) W := by
  rw [as_rlm]
  simp only [Sem.run_bind, asC_partsP, Result.andThen]
  simp [ReflectliteValue.elem, loadVar, isAgg, underlying, Tryz.underlying345, ha, Result.andThen, asC_elemOfP, asC_mkT]
theorem asC_partsTa (a : Addr) (w : World) : (ReflectliteValue.parts (.agg #[.pointer (some ⟨6, 31, none⟩), .pointer (some a), .int .u64 386])).run Tryz.prog w = .ok (some (31, a, 386)) w := by kernel_rfl
theorem asC_partsT (a : Addr) (w : World) : (ReflectliteValue.parts (.agg #[.pointer (some ⟨6, 31, none⟩), .pointer (some a), .int .u64 130])).run Tryz.prog w = .ok (some (31, a, 130)) w := by kernel_rfl
theorem asC_direct (w : World) : (Rtype.directlyAssignable 31 31).run Tryz.prog w = .ok true w := by kernel_rfl
theorem asC_set (ta b : Addr) (e : Int) (old : Value) (W : World) (hb : W.cell? b = some (.int .i64 e)) (ht : W.cell? ta = some old) (hf : W.frozen? ta = false) :
    (ReflectliteValue.set #[.agg #[.pointer (some ⟨6, 31, none⟩), .pointer (some ta), .int .u64 386], .agg #[.pointer (some ⟨6, 31, none⟩), .pointer (some b), .int .u64 130]]).run Tryz.prog W
      = .ok (.tuple #[]) (W.setCell ta (.int .i64 e)) := by
  rw [as_rls]
  simp only [Sem.run_bind, asC_partsTa, asC_partsT, Result.andThen]
  simp [ReflectliteValue.flagAddr, loadVar, isAgg, underlying, Tryz.underlying31, hb, Result.andThen, asC_direct, storeVar, Value.cells, storeCells, Addr.add]
  rw [run_store Tryz.prog W ta _ _ (by rfl)]
  simp [ht, hf]
end
section
open Go.Extern.Stop Go.Stop Go.Extern
/-- The package variable errors.errorType, as the program lays it. -/
def ErrT (w : World) : Prop := w.cell? ⟨0, 0, none⟩ = some (.iface 231 (.agg #[.pointer (some ⟨6, 57, none⟩)]))
theorem ErrT.below {w W : World} (h : ErrT w) (hb : Below w.heap.size w W) : ErrT W := pw_cell_below hb h
theorem ErrT.lt {w : World} (h : ErrT w) : 0 < w.heap.size := World.block_lt_of_cell? w _ h
theorem ErrT.of_below {w0 W : World} (h : ErrT w0) (hb : Below w0.heap.size w0 W) : ErrT W := pw_cell_below hb h
set_option maxHeartbeats 4000000 in
/-- errors.As(f, &t), f and the variable t of the fault's pointer type: the variable is set. -/
theorem as_hitF (e t : Addr) (old : Value) (w : World) (hg : ErrT w) (ht0 : w.cell? t = some old) (hf0 : w.frozen? t = false) :
    Calls Tryz.prog 55 #[.iface 313 (.pointer (some e)), .iface 344 (.pointer (some t))] w fun ev w' => ev = .returned (.bool true) ∧ w' = ((((w.alloc (.cells #[.pointer (some t)] 344)).alloc (.cells #[.pointer (some ⟨6, 344, none⟩), .pointer (some ⟨w.heap.size, 0, none⟩), .int .u64 150] 180)).alloc (.cells #[.pointer (some ⟨6, 344, none⟩), .pointer (some ⟨w.heap.size, 0, none⟩), .int .u64 150] 180)).alloc (.cells #[.pointer (some e)] 313)).setCell t (.pointer (some e)) := by
  have hvo := @run_callFunc_extern Tryz.prog 108 _ (fun args => ReflectliteValue.unpack (args.getD 0 (.tuple #[]))) Tryz.func108 (by kernel_rfl) (by kernel_rfl) (by kernel_rfl) (by kernel_rfl)
  have hty := @run_callFunc_extern Tryz.prog 109 _ (ReflectliteValue.methodAny (ReflectliteValue.valueError "reflectlite.Value.Type" 0) (fun t _ _ _ => ReflectliteType.toType t)) Tryz.func109 (by kernel_rfl) (by kernel_rfl) (by kernel_rfl) (by kernel_rfl)
  have hisn := @run_callFunc_extern Tryz.prog 110 _ (ReflectliteValue.method (ReflectliteValue.valueError "reflectlite.Value.IsNil" 0) ReflectliteValue.isNil) Tryz.func110 (by kernel_rfl) (by kernel_rfl) (by kernel_rfl) (by kernel_rfl)
  have hkd := @run_callFunc_extern Tryz.prog 355 _ (ReflectliteType.abiMethod fun t => do pure (.int .u8 (← Rtype.kind t))) Tryz.func355 (by kernel_rfl) (by kernel_rfl) (by kernel_rfl) (by kernel_rfl)
  have hel := @run_callFunc_extern Tryz.prog 367 _ (ReflectliteType.method ReflectliteType.elem) Tryz.func367 (by kernel_rfl) (by kernel_rfl) (by kernel_rfl) (by kernel_rfl)
  have him := @run_callFunc_extern Tryz.prog 368 _ (ReflectliteType.relation "Implements" ReflectliteType.implements_) Tryz.func368 (by kernel_rfl) (by kernel_rfl) (by kernel_rfl) (by kernel_rfl)
  have hto := @run_callFunc_extern Tryz.prog 106 _ (ReflectliteType.typeOf) Tryz.func106 (by kernel_rfl) (by kernel_rfl) (by kernel_rfl) (by kernel_rfl)
  have has := @run_callFunc_extern Tryz.prog 365 _ (ReflectliteType.relation "AssignableTo" ReflectliteType.assignableTo) Tryz.func365 (by kernel_rfl) (by kernel_rfl) (by kernel_rfl) (by kernel_rfl)
  have hev := @run_callFunc_extern Tryz.prog 153 _ (ReflectliteValue.method (ReflectliteValue.valueError "reflectlite.Value.Elem" 0) ReflectliteValue.elem) Tryz.func153 (by kernel_rfl) (by kernel_rfl) (by kernel_rfl) (by kernel_rfl)
  have hst := @run_callFunc_extern Tryz.prog 154 _ (ReflectliteValue.set) Tryz.func154 (by kernel_rfl) (by kernel_rfl) (by kernel_rfl) (by kernel_rfl)
  have tO := asF_typeOfT
  have mA := as_methodAssignableTo
  have aT := asF_assignT
  have vT := asF_valueOfT
  have vP := asF_valueOfP
  have tP := asF_typeP
  have mK := as_methodKind
  have mE := as_methodElem
  have mI := as_methodImplements
  have kP := asF_kindP
  have kT := asF_kindT
  have eP := asF_elemP
  have iT := asF_implT
  have hlt : 0 < w.heap.size := ErrT.lt hg
  have htl : t.block < w.heap.size := World.block_lt_of_cell? w _ ht0
  have n8 := asF_isNilP ⟨w.heap.size, 0, none⟩ t ((w.alloc (.cells #[.pointer (some t)] 344)).alloc (.cells #[.pointer (some ⟨6, 344, none⟩), .pointer (some ⟨w.heap.size, 0, none⟩), .int .u64 150] 180)) (by simp)
  have hg2 : ((w.alloc (.cells #[.pointer (some t)] 344)).alloc (.cells #[.pointer (some ⟨6, 344, none⟩), .pointer (some ⟨w.heap.size, 0, none⟩), .int .u64 150] 180)).cell? ⟨0, 0, none⟩ = some (.iface 231 (.agg #[.pointer (some ⟨6, 57, none⟩)])) := by
    rw [World.cell?_alloc_lt _ _ ⟨0, 0, none⟩ (by simp <;> omega), World.cell?_alloc_lt _ _ ⟨0, 0, none⟩ hlt]; exact hg
  have el := asF_elemV ⟨w.heap.size, 0, none⟩ t (((w.alloc (.cells #[.pointer (some t)] 344)).alloc (.cells #[.pointer (some ⟨6, 344, none⟩), .pointer (some ⟨w.heap.size, 0, none⟩), .int .u64 150] 180)).alloc (.cells #[.pointer (some ⟨6, 344, none⟩), .pointer (some ⟨w.heap.size, 0, none⟩), .int .u64 150] 180)) (by rw [World.cell?_alloc_lt _ _ ⟨w.heap.size, 0, none⟩ (by simp; omega)]; simp)
  have st := asF_set t ⟨w.heap.size + 1 + 1 + 1, 0, none⟩ e old ((((w.alloc (.cells #[.pointer (some t)] 344)).alloc (.cells #[.pointer (some ⟨6, 344, none⟩), .pointer (some ⟨w.heap.size, 0, none⟩), .int .u64 150] 180)).alloc (.cells #[.pointer (some ⟨6, 344, none⟩), .pointer (some ⟨w.heap.size, 0, none⟩), .int .u64 150] 180)).alloc (.cells #[.pointer (some e)] 313))
    (by rw [World.cell?_alloc_at _ _ _ _ (by simp)]; rfl)
    (by rw [World.cell?_alloc_lt _ _ t (by simp; omega), World.cell?_alloc_lt _ _ t (by simp; omega), World.cell?_alloc_lt _ _ t (by simp; omega), World.cell?_alloc_lt _ _ t htl]; exact ht0)
    (by rw [World.frozen?_alloc_old _ _ t (by simp; omega), World.frozen?_alloc_old _ _ t (by simp; omega), World.frozen?_alloc_old _ _ t (by simp; omega), World.frozen?_alloc_old _ _ t (Nat.ne_of_lt htl)]; exact hf0)
  clear hg
  go_enter Tryz.func55, Tryz.ntmps55
  go_wp2
  refine wp_loop_rounds 1 ?_
  rw [rounds_succ]
  go_wp2
  go_ret
  exact ⟨rfl, rfl⟩

theorem as_noAssign (w : World) : (ReflectliteType.relation "AssignableTo" ReflectliteType.assignableTo #[.agg #[.pointer (some ⟨6, 313, none⟩)], .iface 231 (.agg #[.pointer (some ⟨6, 31, none⟩)])]).run Tryz.prog w = .ok (.bool false) w := by kernel_rfl
theorem as_noAsF (v : Value) (xT : TypeId) (w : World) : (Instr.typeAssert (.iface 313 v) xT 242 true).run Tryz.prog w = .ok (.tuple #[.nilIface, .bool false]) w := run_typeAssert_lacksB Tryz.underlying242 (by kernel_rfl) (by kernel_rfl) v xT w
theorem as_unwrapF (v : Value) (xT : TypeId) (w : World) : (Instr.typeAssert (.iface 313 v) xT 236 true).run Tryz.prog w = .ok (.tuple #[.iface 313 v, .bool true]) w := run_typeAssert_hasB Tryz.underlying236 (by kernel_rfl) v xT w
theorem as_methodUnwrapF (v : Value) (w : World) : (Go.method 555 313 v "Unwrap").run Tryz.prog w = .ok (381, v) w := by kernel_rfl
set_option maxHeartbeats 4000000 in
/-- errors.As(f, &t), f a fault of the code c, t a variable of the codes' type: one Unwrap, then it is set. -/
theorem as_hitC (h : Nat) (p c : Int) (t : Addr) (old : Value) (w : World) (hg : ErrT w) (hh : w.heap[h]? = some (.cells #[.int .i64 p, .iface 31 (.int .i64 c)] 315 (0, 0))) (ht0 : w.cell? t = some old) (hf0 : w.frozen? t = false) :
    Calls Tryz.prog 55 #[.iface 313 (.pointer (some ⟨h, 0, none⟩)), .iface 345 (.pointer (some t))] w fun ev w' => ev = .returned (.bool true) ∧ w' = ((((w.alloc (.cells #[.pointer (some t)] 345)).alloc (.cells #[.pointer (some ⟨6, 345, none⟩), .pointer (some ⟨w.heap.size, 0, none⟩), .int .u64 150] 180)).alloc (.cells #[.pointer (some ⟨6, 345, none⟩), .pointer (some ⟨w.heap.size, 0, none⟩), .int .u64 150] 180)).alloc (.cells #[.int .i64 c] 31)).setCell t (.int .i64 c) := by
  have hvo := @run_callFunc_extern Tryz.prog 108 _ (fun args => ReflectliteValue.unpack (args.getD 0 (.tuple #[]))) Tryz.func108 (by kernel_rfl) (by kernel_rfl) (by kernel_rfl) (by kernel_rfl)
  have hty := @run_callFunc_extern Tryz.prog 109 _ (ReflectliteValue.methodAny (ReflectliteValue.valueError "reflectlite.Value.Type" 0) (fun t _ _ _ => ReflectliteType.toType t)) Tryz.func109 (by kernel_rfl) (by kernel_rfl) (by kernel_rfl) (by kernel_rfl)
  have hisn := @run_callFunc_extern Tryz.prog 110 _ (ReflectliteValue.method (ReflectliteValue.valueError "reflectlite.Value.IsNil" 0) ReflectliteValue.isNil) Tryz.func110 (by kernel_rfl) (by kernel_rfl) (by kernel_rfl) (by kernel_rfl)
  have hkd := @run_callFunc_extern Tryz.prog 355 _ (ReflectliteType.abiMethod fun t => do pure (.int .u8 (← Rtype.kind t))) Tryz.func355 (by kernel_rfl) (by kernel_rfl) (by kernel_rfl) (by kernel_rfl)
  have hel := @run_callFunc_extern Tryz.prog 367 _ (ReflectliteType.method ReflectliteType.elem) Tryz.func367 (by kernel_rfl) (by kernel_rfl) (by kernel_rfl) (by kernel_rfl)
  have him := @run_callFunc_extern Tryz.prog 368 _ (ReflectliteType.relation "Implements" ReflectliteType.implements_) Tryz.func368 (by kernel_rfl) (by kernel_rfl) (by kernel_rfl) (by kernel_rfl)
  have hto := @run_callFunc_extern Tryz.prog 106 _ (ReflectliteType.typeOf) Tryz.func106 (by kernel_rfl) (by kernel_rfl) (by kernel_rfl) (by kernel_rfl)
  have has := @run_callFunc_extern Tryz.prog 365 _ (ReflectliteType.relation "AssignableTo" ReflectliteType.assignableTo) Tryz.func365 (by kernel_rfl) (by kernel_rfl) (by kernel_rfl) (by kernel_rfl)
  have hev := @run_callFunc_extern Tryz.prog 153 _ (ReflectliteValue.method (ReflectliteValue.valueError "reflectlite.Value.Elem" 0) ReflectliteValue.elem) Tryz.func153 (by kernel_rfl) (by kernel_rfl) (by kernel_rfl) (by kernel_rfl)
  have hst := @run_callFunc_extern Tryz.prog 154 _ (ReflectliteValue.set) Tryz.func154 (by kernel_rfl) (by kernel_rfl) (by kernel_rfl) (by kernel_rfl)
  have tO := asC_typeOfT
  have mA := as_methodAssignableTo
  have aT := asC_assignT
  have vT := asC_valueOfT
  have vP := asC_valueOfP
  have tP := asC_typeP
  have mK := as_methodKind
  have mE := as_methodElem
  have mI := as_methodImplements
  have kP := asC_kindP
  have kT := asC_kindT
  have eP := asC_elemP
  have iT := asC_implT
  have hlt : 0 < w.heap.size := ErrT.lt hg
  have htl : t.block < w.heap.size := World.block_lt_of_cell? w _ ht0
  have n8 := asC_isNilP ⟨w.heap.size, 0, none⟩ t ((w.alloc (.cells #[.pointer (some t)] 345)).alloc (.cells #[.pointer (some ⟨6, 345, none⟩), .pointer (some ⟨w.heap.size, 0, none⟩), .int .u64 150] 180)) (by simp)
  have hg2 : ((w.alloc (.cells #[.pointer (some t)] 345)).alloc (.cells #[.pointer (some ⟨6, 345, none⟩), .pointer (some ⟨w.heap.size, 0, none⟩), .int .u64 150] 180)).cell? ⟨0, 0, none⟩ = some (.iface 231 (.agg #[.pointer (some ⟨6, 57, none⟩)])) := by
    rw [World.cell?_alloc_lt _ _ ⟨0, 0, none⟩ (by simp <;> omega), World.cell?_alloc_lt _ _ ⟨0, 0, none⟩ hlt]; exact hg
  have el := asC_elemV ⟨w.heap.size, 0, none⟩ t (((w.alloc (.cells #[.pointer (some t)] 345)).alloc (.cells #[.pointer (some ⟨6, 345, none⟩), .pointer (some ⟨w.heap.size, 0, none⟩), .int .u64 150] 180)).alloc (.cells #[.pointer (some ⟨6, 345, none⟩), .pointer (some ⟨w.heap.size, 0, none⟩), .int .u64 150] 180)) (by rw [World.cell?_alloc_lt _ _ ⟨w.heap.size, 0, none⟩ (by simp; omega)]; simp)
  have st := asC_set t ⟨w.heap.size + 1 + 1 + 1, 0, none⟩ c old ((((w.alloc (.cells #[.pointer (some t)] 345)).alloc (.cells #[.pointer (some ⟨6, 345, none⟩), .pointer (some ⟨w.heap.size, 0, none⟩), .int .u64 150] 180)).alloc (.cells #[.pointer (some ⟨6, 345, none⟩), .pointer (some ⟨w.heap.size, 0, none⟩), .int .u64 150] 180)).alloc (.cells #[.int .i64 c] 31))
    (by rw [World.cell?_alloc_at _ _ _ _ (by simp)]; rfl)
    (by rw [World.cell?_alloc_lt _ _ t (by simp; omega), World.cell?_alloc_lt _ _ t (by simp; omega), World.cell?_alloc_lt _ _ t (by simp; omega), World.cell?_alloc_lt _ _ t htl]; exact ht0)
    (by rw [World.frozen?_alloc_old _ _ t (by simp; omega), World.frozen?_alloc_old _ _ t (by simp; omega), World.frozen?_alloc_old _ _ t (by simp; omega), World.frozen?_alloc_old _ _ t (Nat.ne_of_lt htl)]; exact hf0)
  have tF := asF_typeOfT
  have aN := as_noAssign
  have nA := as_noAsF
  have uF := as_unwrapF
  have mU := as_methodUnwrapF
  have hc1 : (((w.alloc (.cells #[.pointer (some t)] 345)).alloc (.cells #[.pointer (some ⟨6, 345, none⟩), .pointer (some ⟨w.heap.size, 0, none⟩), .int .u64 150] 180)).alloc (.cells #[.pointer (some ⟨6, 345, none⟩), .pointer (some ⟨w.heap.size, 0, none⟩), .int .u64 150] 180)).cell? ⟨h, 1, none⟩ = some (.iface 31 (.int .i64 c)) := by
    have h1 := blk_cell hh 1
    have hl := blk_lt hh
    rw [World.cell?_alloc_lt _ _ ⟨h, 1, none⟩ (by simp; omega), World.cell?_alloc_lt _ _ ⟨h, 1, none⟩ (by simp; omega), World.cell?_alloc_lt _ _ ⟨h, 1, none⟩ hl]
    exact h1
  clear hg hh
  go_enter Tryz.func55, Tryz.ntmps55
  go_wp2
  refine wp_loop_rounds 2 ?_
  rw [rounds_succ]
  go_wp2
  rw [rounds_succ]
  go_wp2
  go_ret
  exact ⟨rfl, rfl⟩
end

end Go.Proofs.YtibdikihgdkfnaaGreatDoor.PSto

-- Printed for this claim by a program of this session's own (it runs the kit's print another way): Lean checks it.
import Derived.Test.YtdabdhimidfofaaDoorPFramex0
namespace Go.Proofs.YtdabdhimidfofaaDoor.PFrame
open Go.RowKit Go.Proofs.YtdabdhimidfofaaDoorW.PrintWords Go.Proofs.YtdabdhimidfofaaDoorW.PrintLast Go.Proofs.YtdabdhimidfofaaDoorW.PrintMore
attribute [local go_sem] max2_int min2_int max_two min_two max_three min_three max_four min_four   -- for this text's walks alone
set_option linter.unusedVariables false
set_option linter.unusedSimpArgs false

/-! ### errors_Is: function 24 -/
section
open Go.Extern.Stop Go.Stop Go.Extern
theorem is_typeOf (v : Value) (w : World) : (ReflectliteType.typeOf #[.iface 24 v]).run Tryd.prog w = .ok (.iface 84 (.agg #[.pointer (some ⟨1, 24, none⟩)])) w := by kernel_rfl
set_option maxRecDepth 100000 in
theorem is_comparable (w : World) : ((ReflectliteType.method fun t => do Rtype.noPackHeld "Comparable" t; (fun a => Value.bool a.comparable) <$> typeInfo t) #[.agg #[.pointer (some ⟨1, 24, none⟩)]]).run Tryd.prog w = .ok (.bool true) w := by kernel_rfl
theorem is_methodComparable (v : Value) (w : World) : (Go.method 238 84 v "Comparable").run Tryd.prog w = .ok (73, v) w := by kernel_rfl
theorem is_noIsE (v : Value) (xT : TypeId) (w : World) : (Instr.typeAssert (.iface 24 v) xT 86 true).run Tryd.prog w = .ok (.tuple #[.nilIface, .bool false]) w := run_typeAssert_lacksB Tryd.underlying86 (by kernel_rfl) (by kernel_rfl) v xT w
theorem is_noUnwrapE (v : Value) (xT : TypeId) (w : World) : (Instr.typeAssert (.iface 24 v) xT 89 true).run Tryd.prog w = .ok (.tuple #[.nilIface, .bool false]) w := run_typeAssert_lacksB Tryd.underlying89 (by kernel_rfl) (by kernel_rfl) v xT w
theorem is_noUnwrapsE (v : Value) (xT : TypeId) (w : World) : (Instr.typeAssert (.iface 24 v) xT 91 true).run Tryd.prog w = .ok (.tuple #[.nilIface, .bool false]) w := run_typeAssert_lacksB Tryd.underlying91 (by kernel_rfl) (by kernel_rfl) v xT w
theorem is_noIsB (v : Value) (xT : TypeId) (w : World) : (Instr.typeAssert (.iface 68 v) xT 86 true).run Tryd.prog w = .ok (.tuple #[.nilIface, .bool false]) w := run_typeAssert_lacksB Tryd.underlying86 (by kernel_rfl) (by kernel_rfl) v xT w
theorem is_unwrapB (v : Value) (xT : TypeId) (w : World) : (Instr.typeAssert (.iface 68 v) xT 89 true).run Tryd.prog w = .ok (.tuple #[.iface 68 v, .bool true]) w := run_typeAssert_hasB Tryd.underlying89 (by kernel_rfl) v xT w
theorem is_methodUnwrapB (v : Value) (w : World) : (Go.method 238 68 v "Unwrap").run Tryd.prog w = .ok (68, v) w := by kernel_rfl
theorem is_eqE (a b : Int) (w : World) : (binOp .eql 49 (.iface 24 (.int .i64 a)) (.iface 24 (.int .i64 b))).run Tryd.prog w = .ok (.bool (a == b)) w := by
  exact Lib.run_eql_iface_int (P := Tryd.prog) w a b Tryd.underlying49 (by kernel_rfl) Tryd.underlying24
set_option maxHeartbeats 4000000 in
theorem is_nil (b : Int) (w : World) :
    Calls Tryd.prog 24 #[.nilIface, .iface 24 (.int .i64 b)] w fun e w' => e = .returned (.bool false) ∧ w = w' := by
  have hn := run_eql_iface_nil_left (P := Tryd.prog) w 24 (.int .i64 b) Tryd.underlying49
  go_enter Tryd.func24, Tryd.ntmps24
  go_wp2
  go_ret
  exact ⟨rfl, rfl⟩
set_option maxHeartbeats 4000000 in
/-- errors.Is(broken{a}, b), a and b codes. -/
theorem is_broken (a b : Int) (w : World) :
    Calls Tryd.prog 24 #[.iface 68 (.agg #[.iface 24 (.int .i64 a)]), .iface 24 (.int .i64 b)] w fun e w' => e = .returned (.bool (a == b)) ∧ Below w.heap.size w w' := by
  have hto := @run_callFunc_extern Tryd.prog 33 _ ReflectliteType.typeOf Tryd.func33 (by kernel_rfl) (by kernel_rfl) (by kernel_rfl) (by kernel_rfl)
  have hcm := @run_callFunc_extern Tryd.prog 73 _ (ReflectliteType.method fun t => do Rtype.noPackHeld "Comparable" t; pure (.bool (← typeInfo t).comparable)) Tryd.func73 (by kernel_rfl) (by kernel_rfl) (by kernel_rfl) (by kernel_rfl)
  have tT := is_typeOf
  have cT := is_comparable
  have mR := is_methodComparable
  have nE := is_noIsE
  have uE := is_noUnwrapE
  have vE := is_noUnwrapsE
  have nB := is_noIsB
  have uB := is_unwrapB
  have mU := is_methodUnwrapB
  have hq := is_eqE a b
  have hty := fun (v : Value) (w : World) => run_eql_iface_types (P := Tryd.prog) 68 24 v (.int .i64 b) Tryd.underlying49 (by decide) w
  obtain ⟨c, hc⟩ : ∃ c, (a == b) = c := ⟨_, rfl⟩
  rw [hc] at hq ⊢
  clear hc
  cases c
  all_goals
    go_enter Tryd.func24, Tryd.ntmps24
    go_wp2
    refine wp_loop_rounds 2 ?_
    rw [rounds_succ]
    go_wp2
    rw [rounds_succ]
    go_wp2
    go_ret
    exact ⟨rfl, below_alloc (Below.refl _ _) _⟩
end

end Go.Proofs.YtdabdhimidfofaaDoor.PFrame

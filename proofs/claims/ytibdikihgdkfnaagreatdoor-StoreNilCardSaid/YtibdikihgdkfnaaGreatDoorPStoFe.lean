-- Printed for this claim by a program of this session's own (it runs the kit's print another way): Lean checks it.
import Derived.Test.YtibdikihgdkfnaaGreatDoorPStox0
namespace Go.Proofs.YtibdikihgdkfnaaGreatDoor.PSto
open Go.RowKit Go.Proofs.YtibdikihgdkfnaaGreatDoorW.PrintWords Go.Proofs.YtibdikihgdkfnaaGreatDoorW.PrintLast Go.Proofs.YtibdikihgdkfnaaGreatDoorW.PrintMore
attribute [local go_sem] max2_int min2_int max_two min_two max_three min_three max_four min_four   -- for this text's walks alone
set_option linter.unusedVariables false
set_option linter.unusedSimpArgs false


-- NOT PRINTED: function 4 (store_Store_Do)

-- NOT PRINTED: function 21 (table_New)

-- NOT PRINTED: function 107 (errors_is)

/-! ### errors_Is: function 54 -/
section
open Go.Extern.Stop Go.Stop Go.Extern
theorem is_typeOf (v : Value) (w : World) : (ReflectliteType.typeOf #[.iface 31 v]).run Tryz.prog w = .ok (.iface 231 (.agg #[.pointer (some ⟨6, 31, none⟩)])) w := by kernel_rfl
set_option maxRecDepth 100000 in
theorem is_comparable (w : World) : ((ReflectliteType.method fun t => do Rtype.noPackHeld "Comparable" t; (fun a => Value.bool a.comparable) <$> typeInfo t) #[.agg #[.pointer (some ⟨6, 31, none⟩)]]).run Tryz.prog w = .ok (.bool true) w := by kernel_rfl
theorem is_methodComparable (v : Value) (w : World) : (Go.method 555 231 v "Comparable").run Tryz.prog w = .ok (366, v) w := by kernel_rfl
theorem is_noIsE (v : Value) (xT : TypeId) (w : World) : (Instr.typeAssert (.iface 31 v) xT 233 true).run Tryz.prog w = .ok (.tuple #[.nilIface, .bool false]) w := run_typeAssert_lacksB Tryz.underlying233 (by kernel_rfl) (by kernel_rfl) v xT w
theorem is_noUnwrapE (v : Value) (xT : TypeId) (w : World) : (Instr.typeAssert (.iface 31 v) xT 236 true).run Tryz.prog w = .ok (.tuple #[.nilIface, .bool false]) w := run_typeAssert_lacksB Tryz.underlying236 (by kernel_rfl) (by kernel_rfl) v xT w
theorem is_noUnwrapsE (v : Value) (xT : TypeId) (w : World) : (Instr.typeAssert (.iface 31 v) xT 237 true).run Tryz.prog w = .ok (.tuple #[.nilIface, .bool false]) w := run_typeAssert_lacksB Tryz.underlying237 (by kernel_rfl) (by kernel_rfl) v xT w
theorem is_noIsB (v : Value) (xT : TypeId) (w : World) : (Instr.typeAssert (.iface 306 v) xT 233 true).run Tryz.prog w = .ok (.tuple #[.nilIface, .bool false]) w := run_typeAssert_lacksB Tryz.underlying233 (by kernel_rfl) (by kernel_rfl) v xT w
theorem is_unwrapB (v : Value) (xT : TypeId) (w : World) : (Instr.typeAssert (.iface 306 v) xT 236 true).run Tryz.prog w = .ok (.tuple #[.iface 306 v, .bool true]) w := run_typeAssert_hasB Tryz.underlying236 (by kernel_rfl) v xT w
theorem is_methodUnwrapB (v : Value) (w : World) : (Go.method 555 306 v "Unwrap").run Tryz.prog w = .ok (379, v) w := by kernel_rfl
theorem is_eqE (a b : Int) (w : World) : (binOp .eql 57 (.iface 31 (.int .i64 a)) (.iface 31 (.int .i64 b))).run Tryz.prog w = .ok (.bool (a == b)) w := by
  exact Lib.run_eql_iface_int (P := Tryz.prog) w a b Tryz.underlying57 (by kernel_rfl) Tryz.underlying31
set_option maxHeartbeats 4000000 in
theorem is_nil (b : Int) (w : World) :
    Calls Tryz.prog 54 #[.nilIface, .iface 31 (.int .i64 b)] w fun e w' => e = .returned (.bool false) ∧ w = w' := by
  have hn := run_eql_iface_nil_left (P := Tryz.prog) w 31 (.int .i64 b) Tryz.underlying57
  go_enter Tryz.func54, Tryz.ntmps54
  go_wp2
  go_ret
  exact ⟨rfl, rfl⟩
set_option maxHeartbeats 4000000 in
/-- errors.Is(broken{a}, b), a and b codes. -/
theorem is_broken (a b : Int) (w : World) :
    Calls Tryz.prog 54 #[.iface 306 (.agg #[.iface 31 (.int .i64 a)]), .iface 31 (.int .i64 b)] w fun e w' => e = .returned (.bool (a == b)) ∧ Below w.heap.size w w' := by
  have hto := @run_callFunc_extern Tryz.prog 106 _ ReflectliteType.typeOf Tryz.func106 (by kernel_rfl) (by kernel_rfl) (by kernel_rfl) (by kernel_rfl)
  have hcm := @run_callFunc_extern Tryz.prog 366 _ (ReflectliteType.method fun t => do Rtype.noPackHeld "Comparable" t; pure (.bool (← typeInfo t).comparable)) Tryz.func366 (by kernel_rfl) (by kernel_rfl) (by kernel_rfl) (by kernel_rfl)
  have tT := is_typeOf
  have cT := is_comparable
  have mR := is_methodComparable
  have nE := is_noIsE
  have uE := is_noUnwrapE
  have vE := is_noUnwrapsE
  have nB := is_noIsB
  have uB := is_unwrapB
  have mU := is_methodUnwrapB
  have hq := is_eqE a b
  have hty := fun (v : Value) (w : World) => run_eql_iface_types (P := Tryz.prog) 306 31 v (.int .i64 b) Tryz.underlying57 (by decide) w
  obtain ⟨c, hc⟩ : ∃ c, (a == b) = c := ⟨_, rfl⟩
  rw [hc] at hq ⊢
  clear hc
  cases c
  all_goals
    go_enter Tryz.func54, Tryz.ntmps54
    go_wp2
    refine wp_loop_rounds 2 ?_
    rw [rounds_succ]
    go_wp2
    rw [rounds_succ]
    go_wp2
    go_ret
    exact ⟨rfl, below_alloc (Below.refl _ _) _⟩
end

-- NOT PRINTED: function 22 (store_code)

-- NOT PRINTED: function 85 (disk_Disk_up)

-- NOT PRINTED: function 176 (slices_AppendSeq_string_string)

-- NOT PRINTED: function 132 (slices_Collect_string)

-- NOT PRINTED: function 86 (slices_Sorted_string)

-- NOT PRINTED: function 87 (disk_file)

-- NOT PRINTED: function 35 (disk_Disk_Names)

-- NOT PRINTED: function 58 (store_lost)

-- NOT PRINTED: function 79 (disk_Disk_Delete)

/-! ### manifest_GroupName: function 78 -/
end Go.Proofs.YtibdikihgdkfnaaGreatDoor.PSto

/- Texts of this proof, put into one, without what it does not use: PManx9. -/
import Derived.Test.YtjmhiklmlgbifaaGreatDoorPB4
import Derived.Test.YtjmhiklmlgbifaaGreatDoorPB15
section
namespace Go.Proofs.YtjmhiklmlgbifaaGreatDoor.PMan
open Go.RowKit Go.Proofs.YtjmhiklmlgbifaaGreatDoorW.PrintWords Go.Proofs.YtjmhiklmlgbifaaGreatDoorW.PrintLast Go.Proofs.YtjmhiklmlgbifaaGreatDoorW.PrintMore
attribute [local go_sem] max2_int min2_int max_two min_two max_three min_three max_four min_four   -- for this text's walks alone
set_option linter.unusedVariables false
set_option linter.unusedSimpArgs false
def frame_Put.f (k : Nat) (l0 : List Int) : Option (List Int × Int) := if (l0.length : Int) > 16777216 then (some (([] : List Int), 12)) else ((num_PutFix.f k ([] : List Int) (IntKind.u64.wrap ((l0.length : Int))) 4).bind fun t135 => ((crc_Sum.f t135).bind fun t138 => ((crc_More.f t138 l0).bind fun t139 => ((num_PutFix.f k t135 (IntKind.u64.wrap (t139)) 4).bind fun t140 => (if t140.length + l0.length < 140737488355328 then (some ((t140 ++ l0), 0)) else (none))))))
set_option maxHeartbeats 8000000 in
set_option maxRecDepth 100000 in
theorem frame_Put.calls (k : Nat) (A0 : Option Addr) (c0 : Nat) (l0 : List Int) (r1 : List Int) (r2 : Int) (w : World) (hr0 : Kd.C (Kd.int .u8) w A0 l0.length l0) (hc0 : l0.length ≤ c0) (h : frame_Put.f k l0 = some (r1, r2)) :
    Calls Tryz.prog 35 #[.slice A0 l0.length c0] w fun e w' => ∃ v0_ : Value, e = .returned (.tuple #[v0_, .int .i64 r2]) ∧ Kd.R (Kd.int .u8) 5 w' w.heap.size (fun _ => True) v0_ r1 ∧ Below w.heap.size w w' := by
  have HR0 := Aside0.mk hr0
  have HC0 := Aside0.mk hc0
  clear hr0 hc0
  have HB := Aside0.mk (Below.refl w.heap.size w)
  have H : (if (l0.length : Int) > 16777216 then (some (([] : List Int), 12)) else ((num_PutFix.f k ([] : List Int) (IntKind.u64.wrap ((l0.length : Int))) 4).bind fun t135 => ((crc_Sum.f t135).bind fun t138 => ((crc_More.f t138 l0).bind fun t139 => ((num_PutFix.f k t135 (IntKind.u64.wrap (t139)) 4).bind fun t140 => (if t140.length + l0.length < 140737488355328 then (some ((t140 ++ l0), 0)) else (none))))))) = some (r1, r2) := h
  clear h
  by_cases c2 : (l0.length : Int) > 16777216
  · rw [if_pos c2] at H
    have c2b0 : decide (16777216 < (l0.length : Int)) = true := decide_eq_true c2
    have c2b1 : decide (16777216 < l0.length) = true := decide_eq_true (by omega)
    clear c2
    simp only [Option.some.injEq, Prod.mk.injEq] at H
    obtain ⟨rfl, rfl⟩ := H
    go_enter Tryz.func35, Tryz.ntmps35
    go_wp2
    go_ret2
    exact ⟨_, by first | rfl | (simp [errW_none, errW_some] <;> rfl) | (simp [*, errW_none, errW_some] <;> rfl), by first | exact Kd.R_nil _ _ _ _ _ | exact Kd.N_nil _ _ _ _ _ | exact Kd.V_nil _ _ _ _ _ | exact Kd.Q_nil _ _ _ _ _ | exact Kd.S_nil _ _ _ _ _, by repeat (first | (with_reducible first | exact HB.out | apply below_alloc | apply pw_below_drewN | apply below_drew1) | exact HB.out)⟩
  · rw [if_neg c2] at H
    have c2b0 : decide (16777216 < (l0.length : Int)) = false := decide_eq_false c2
    have c2b1 : decide (16777216 < l0.length) = false := decide_eq_false (by omega)
    clear c2
    replace H := Option.bind_eq_some_iff.mp H
    obtain ⟨t135, A30, H⟩ := H
    replace H : ((crc_Sum.f t135).bind fun t138 => ((crc_More.f t138 l0).bind fun t139 => ((num_PutFix.f k t135 (IntKind.u64.wrap (t139)) 4).bind fun t140 => (if t140.length + l0.length < 140737488355328 then (some ((t140 ++ l0), 0)) else (none))))) = some (r1, r2) := H
    have A3 := Aside0.mk A30
    clear A30
    replace H := Option.bind_eq_some_iff.mp H
    obtain ⟨t138, A40, H⟩ := H
    replace H : ((crc_More.f t138 l0).bind fun t139 => ((num_PutFix.f k t135 (IntKind.u64.wrap (t139)) 4).bind fun t140 => (if t140.length + l0.length < 140737488355328 then (some ((t140 ++ l0), 0)) else (none)))) = some (r1, r2) := H
    have A4 := Aside0.mk A40
    clear A40
    replace H := Option.bind_eq_some_iff.mp H
    obtain ⟨t139, A50, H⟩ := H
    replace H : ((num_PutFix.f k t135 (IntKind.u64.wrap (t139)) 4).bind fun t140 => (if t140.length + l0.length < 140737488355328 then (some ((t140 ++ l0), 0)) else (none))) = some (r1, r2) := H
    have A5 := Aside0.mk A50
    clear A50
    replace H := Option.bind_eq_some_iff.mp H
    obtain ⟨t140, A60, H⟩ := H
    replace H : (if t140.length + l0.length < 140737488355328 then (some ((t140 ++ l0), 0)) else (none)) = some (r1, r2) := H
    have A6 := Aside0.mk A60
    clear A60
    by_cases c7 : t140.length + l0.length < 140737488355328
    · rw [if_pos c7] at H
      have LMc7 := Aside0.mk c7
      clear c7
      obtain ⟨y143, hy143⟩ : ∃ y_ : List Int, y_ = (t140 ++ l0) := ⟨_, rfl⟩
      replace H : (some (y143, 0)) = some (r1, r2) := by first | (rw [hy143]; with_reducible exact H) | (have H2_ := (Option.bind_some _ _).symm.trans H; rw [hy143]; with_reducible exact H2_) | (have H2_ := (Option.bind_some _ _).symm.trans H; with_reducible exact H2_) | with_reducible exact H | (rw [hy143]; exact H) | exact H
      have Ny143 := Aside0.mk hy143
      clear hy143
      simp only [Option.some.injEq, Prod.mk.injEq] at H
      obtain ⟨rfl, rfl⟩ := H
      go_enter Tryz.func35, Tryz.ntmps35
      go_wp2_with (first | ((with_reducible refine gate_callee (f := 71) rfl ?_); refine goesL_ (some 11) rfl rfl Tryz.func71 (by kernel_rfl) rfl #[.slice none 0 0, .int .u64 (IntKind.u64.wrap ((l0.length : Int))), .int .i64 4] rfl (by (try simp only [List.map_toArray, List.map_cons, List.map_nil]); first | done | rfl | (simp only [List.length_drop, List.length_take]; rfl)) ?_; (refine (num_PutFix.calls k (fun k_ => some k_ = (.slice none 0 0 : Value).ownBlock) (.slice none 0 0) ([] : List Int) (IntKind.u64.wrap ((l0.length : Int))) 4 t135 w _ ?side1 ?side2 A3.out).mono ?_); (case side1 => repeat (first | (with_reducible first | exact HB.out | apply below_alloc | apply pw_below_drewN | apply below_drew1) | exact HB.out)); (case side2 => exact Kd.R_nil _ _ _ _ _); rintro e w8 ⟨v136, rfl, ho0, hb, hkp⟩; refine ⟨_, rfl, ?_⟩; have n0_ := Aside0.mk (Kd.R_mono (ok' := fun k_ => True) ho0 (fun k_ hk_ => trivial)); have n1_ := Aside0.mk (hb); clear HB; have HO137 := n0_; have HB := n1_; clear n0_ n1_; (try clear hb); (try clear hkp); (try clear ho0); obtain ⟨Ao9, co9, eo9⟩ := Kd.R_slice HO137.out; subst eo9) | ((with_reducible refine gate_callee (f := 73) rfl ?_); refine goesL_ (some 14) rfl rfl Tryz.func73 (by kernel_rfl) rfl #[.slice Ao9 t135.length co9] rfl (by (try simp only [List.map_toArray, List.map_cons, List.map_nil]); first | done | rfl | (simp only [List.length_drop, List.length_take]; rfl)) ?_; (with_reducible refine (crc_Sum.calls _ _ t135 t138 _ ?side1 ?side2 A4.out).mono ?_); (case side1 => repeat (first | exact (Kd.R_reads' HO137.out).2.2 | (with_reducible refine Kd.C_alloc ?_ _) | (with_reducible refine Kd.C_drewN ?_ _) | (with_reducible refine Kd.C_drew ?_))); (case side2 => exact (Kd.R_reads' HO137.out).2.1); rintro e w10 ⟨rfl, hb⟩; refine ⟨_, rfl, ?_⟩; have n0_ := Aside0.mk (Kd.R_below (by (with_reducible repeat (first | apply Kd.R_alloc | apply Kd.R_drewN | apply Kd.R_drew)); exact HO137.out) hb); have n1_ := Aside0.mk (below_step (by repeat (first | (with_reducible first | exact HB.out | apply below_alloc | apply pw_below_drewN | apply below_drew1) | exact HB.out)) hb); clear HO137; clear HB; have HO137 := n0_; have HB := n1_; clear n0_ n1_; (try clear hb); (try clear hb2); (try clear hk); (try clear hi)) | ((with_reducible refine gate_callee (f := 72) rfl ?_); refine goesL_ (some 16) rfl rfl Tryz.func72 (by kernel_rfl) rfl #[.int .u32 t138, .slice A0 l0.length c0] rfl (by (try simp only [List.map_toArray, List.map_cons, List.map_nil]); first | done | rfl | (simp only [List.length_drop, List.length_take]; rfl)) ?_; (with_reducible refine (crc_More.calls t138 _ _ l0 t139 _ ?side1 ?side2 A5.out).mono ?_); (case side1 => repeat (first | exact (Kd.C_below HR0.out HB.out) | (with_reducible refine Kd.C_alloc ?_ _) | (with_reducible refine Kd.C_drewN ?_ _) | (with_reducible refine Kd.C_drew ?_))); (case side2 => exact HC0.out); rintro e w11 ⟨rfl, hb⟩; refine ⟨_, rfl, ?_⟩; have n0_ := Aside0.mk (Kd.R_below (by (with_reducible repeat (first | apply Kd.R_alloc | apply Kd.R_drewN | apply Kd.R_drew)); exact HO137.out) hb); have n1_ := Aside0.mk (below_step (by repeat (first | (with_reducible first | exact HB.out | apply below_alloc | apply pw_below_drewN | apply below_drew1) | exact HB.out)) hb); clear HO137; clear HB; have HO137 := n0_; have HB := n1_; clear n0_ n1_; (try clear hb); (try clear hb2); (try clear hk); (try clear hi)) | ((with_reducible refine gate_callee (f := 71) rfl ?_); refine goesL_ (some 18) rfl rfl Tryz.func71 (by kernel_rfl) rfl #[.slice Ao9 t135.length co9, .int .u64 (IntKind.u64.wrap (t139)), .int .i64 4] rfl (by (try simp only [List.map_toArray, List.map_cons, List.map_nil]); first | done | rfl | (simp only [List.length_drop, List.length_take]; rfl)) ?_; (with_reducible refine (num_PutFix.calls k (fun k_ => some k_ = (.slice Ao9 t135.length co9 : Value).ownBlock) (.slice Ao9 t135.length co9) t135 (IntKind.u64.wrap (t139)) 4 t140 w _ ?side1 ?side2 A6.out).mono ?_); (case side1 => repeat (first | (with_reducible first | exact HB.out | apply below_alloc | apply pw_below_drewN | apply below_drew1) | exact HB.out)); (case side2 => exact Kd.R_tight rfl HO137.out); rintro e w12 ⟨v141, rfl, ho0, hb, hkp⟩; refine ⟨_, rfl, ?_⟩; have n0_ := Aside0.mk (Kd.R_mono (ok' := fun k_ => True) ho0 (fun k_ hk_ => trivial)); have n1_ := Aside0.mk (hb); clear HB; clear HO137; have HO142 := n0_; have HB := n1_; clear n0_ n1_; (try clear hb); (try clear hkp); (try clear ho0)) | ((with_reducible refine gate_builtin (b := .append) (xs := #[.tmp 19, .tmp 20]) rfl ?_); at_builtin; refine Kd.R_append_rows (Kd.int .u8) (w0 := w) w.heap.size rfl (.tmp 19) (.tmp 20) 30 5 (.int .u8 0) 1 rfl Tryz.underlying30 info5 rfl (by decide) (by omega) v141 t140 l0 _ _ _ (fun _ => True) (fun _ => False) rfl rfl ?aO ?aR (fun _ _ h => h) (fun _ h => h.elim) ?aF ?aB ?aS ?aL ?_; (case aR => repeat (first | exact (Kd.C_below HR0.out HB.out) | (with_reducible refine Kd.C_alloc ?_ _) | (with_reducible refine Kd.C_drewN ?_ _) | (with_reducible refine Kd.C_drew ?_))); (case aB => exact (by repeat (first | (with_reducible first | exact HB.out | apply below_alloc | apply pw_below_drewN | apply below_drew1) | exact HB.out))); (case aF => exact (fun _ _ => trivial)); (case aO => exact (by (with_reducible repeat (first | apply Kd.R_alloc | apply Kd.R_drewN | apply Kd.R_drew)); exact HO142.out)); (case aS => exact (below_size (by repeat (first | (with_reducible first | exact HB.out | apply below_alloc | apply pw_below_drewN | apply below_drew1) | exact HB.out)))); (case aL => have := LMc7.out; omega); intro v144 w13 ho hb hg hat; rw [← Ny143.out] at ho; have n0_ := Aside0.mk (hb); have n1_ := Aside0.mk (ho); clear HB; clear HO142; have HB := n0_; have HO145 := n1_; clear n0_ n1_; clear ho hb hg hat))
      go_ret2
      exact ⟨_, by first | rfl | (simp [errW_none, errW_some] <;> rfl) | (simp [*, errW_none, errW_some] <;> rfl), by (with_reducible repeat (first | apply Kd.R_alloc | apply Kd.R_drewN | apply Kd.R_drew)); exact HO145.out, by repeat (first | (with_reducible first | exact HB.out | apply below_alloc | apply pw_below_drewN | apply below_drew1) | exact HB.out)⟩
    · rw [if_neg c7] at H
      exact absurd H (by simp)
/-- What a reader's error is: none (0, 0), or a fault: its code and its place. -/
def RdErr (w0 W : World) (ev : Value) (ec ep : Int) : Prop :=
  (ec = 0 ∧ ep = 0 ∧ ev = .nilIface) ∨ (ec ≠ 0 ∧ ∃ h, w0.heap.size ≤ h ∧ ev = .iface 179 (.pointer (some ⟨h, 0, none⟩)) ∧ W.heap[h]? = some (.cells #[.int .i64 ep, .iface 31 (.int .i64 ec)] 184 (0, 0)))
/-- A reader at block g of W: its bytes (which came in by w0), its place, its error's code and place. -/
def RD (w0 W : World) (g : Nat) (f0 : List Int) (f1 f2 f3 : Int) : Prop :=
  ∃ A c ev, W.heap[g]? = some (.cells #[.slice A f0.length c, .int .i64 f1, ev] 178 (0, 0)) ∧ w0.heap.size ≤ g ∧ Kd.C (Kd.int .u8) w0 A f0.length f0 ∧ f0.length ≤ c ∧ RdErr w0 W ev f2 f3
theorem RdErr.move {w0 W W1 : World} {ev : Value} {ec ep : Int} (h : RdErr w0 W ev ec ep) (hw : ∀ k, w0.heap.size ≤ k → ∀ cs, W.heap[k]? = some (.cells cs 184 (0, 0)) → W1.heap[k]? = W.heap[k]?) : RdErr w0 W1 ev ec ep := by
  rcases h with h | ⟨h1, k, h2, h3, h4⟩
  · exact .inl h
  · exact .inr ⟨h1, k, h2, h3, (hw k h2 _ h4).trans h4⟩
theorem RD.below {w0 W W1 : World} {g : Nat} {f0 : List Int} {f1 f2 f3 : Int} (h : RD w0 W g f0 f1 f2 f3) (hb : Below W.heap.size W W1) : RD w0 W1 g f0 f1 f2 f3 := by
  obtain ⟨A, c, ev, h1, h2, h3, h4, h5⟩ := h
  exact ⟨A, c, ev, (hb.block g (blk_lt h1)).trans h1, h2, h3, h4, h5.move fun k _ cs hk => hb.block k (blk_lt hk)⟩
theorem RD.drewN {w0 W : World} {g : Nat} {f0 : List Int} {f1 f2 f3 : Int} (h : RD w0 W g f0 f1 f2 f3) (n : Nat) : RD w0 (W.drewN n) g f0 f1 f2 f3 := h
theorem RD.drew {w0 W : World} {g : Nat} {f0 : List Int} {f1 f2 f3 : Int} (h : RD w0 W g f0 f1 f2 f3) : RD w0 W.drew g f0 f1 f2 f3 := h
theorem RD.lt {w0 W : World} {g : Nat} {f0 : List Int} {f1 f2 f3 : Int} (h : RD w0 W g f0 f1 f2 f3) : g < W.heap.size := by
  obtain ⟨A, c, ev, h1, _⟩ := h
  exact blk_lt h1
/-- The reader's place turned. -/
theorem RD.set_at {w0 W : World} {g : Nat} {f0 : List Int} {f1 f2 f3 : Int} (h : RD w0 W g f0 f1 f2 f3) (x : Int) : RD w0 (W.setCell ⟨g, 1, none⟩ (.int .i64 x)) g f0 x f2 f3 := by
  obtain ⟨A, c, ev, h1, h2, h3, h4, h5⟩ := h
  refine ⟨A, c, ev, by simpa using blk_set h1 1 (.int .i64 x), h2, h3, h4, h5.move fun k _ cs hk => ?_⟩
  refine Below.heap_setCell W _ _ k (fun e => ?_)
  subst e
  rw [h1] at hk
  injection hk with hk
  injection hk with _ ht
  exact absurd ht (by decide)
theorem KeepBut.below_ {w W W1 : World} {g : Nat} (h : KeepBut w W g none) (hb : Below W.heap.size W W1) : KeepBut w W1 g none :=
  ⟨Nat.le_trans h.1 hb.size, fun i hi h1 h2 => (hb.block i (Nat.lt_of_lt_of_le hi h.1)).trans (h.2 i hi h1 h2)⟩
section
open Go.Extern.Stop Go.Stop Go.Extern
theorem is_typeOf (v : Value) (w : World) : (ReflectliteType.typeOf #[.iface 31 v]).run Tryz.prog w = .ok (.iface 194 (.agg #[.pointer (some ⟨4, 31, none⟩)])) w := by kernel_rfl
set_option maxRecDepth 100000 in
theorem is_comparable (w : World) : ((ReflectliteType.method fun t => do Rtype.noPackHeld "Comparable" t; (fun a => Value.bool a.comparable) <$> typeInfo t) #[.agg #[.pointer (some ⟨4, 31, none⟩)]]).run Tryz.prog w = .ok (.bool true) w := by kernel_rfl
theorem is_methodComparable (v : Value) (w : World) : (Go.method 366 194 v "Comparable").run Tryz.prog w = .ok (186, v) w := by kernel_rfl
theorem is_noIsE (v : Value) (xT : TypeId) (w : World) : (Instr.typeAssert (.iface 31 v) xT 196 true).run Tryz.prog w = .ok (.tuple #[.nilIface, .bool false]) w := run_typeAssert_lacksB Tryz.underlying196 (by kernel_rfl) (by kernel_rfl) v xT w
theorem is_noUnwrapE (v : Value) (xT : TypeId) (w : World) : (Instr.typeAssert (.iface 31 v) xT 199 true).run Tryz.prog w = .ok (.tuple #[.nilIface, .bool false]) w := run_typeAssert_lacksB Tryz.underlying199 (by kernel_rfl) (by kernel_rfl) v xT w
theorem is_noUnwrapsE (v : Value) (xT : TypeId) (w : World) : (Instr.typeAssert (.iface 31 v) xT 201 true).run Tryz.prog w = .ok (.tuple #[.nilIface, .bool false]) w := run_typeAssert_lacksB Tryz.underlying201 (by kernel_rfl) (by kernel_rfl) v xT w
theorem is_noIsB (v : Value) (xT : TypeId) (w : World) : (Instr.typeAssert (.iface 176 v) xT 196 true).run Tryz.prog w = .ok (.tuple #[.nilIface, .bool false]) w := run_typeAssert_lacksB Tryz.underlying196 (by kernel_rfl) (by kernel_rfl) v xT w
theorem is_unwrapB (v : Value) (xT : TypeId) (w : World) : (Instr.typeAssert (.iface 176 v) xT 199 true).run Tryz.prog w = .ok (.tuple #[.iface 176 v, .bool true]) w := run_typeAssert_hasB Tryz.underlying199 (by kernel_rfl) v xT w
theorem is_methodUnwrapB (v : Value) (w : World) : (Go.method 366 176 v "Unwrap").run Tryz.prog w = .ok (181, v) w := by kernel_rfl
theorem is_eqE (a b : Int) (w : World) : (binOp .eql 100 (.iface 31 (.int .i64 a)) (.iface 31 (.int .i64 b))).run Tryz.prog w = .ok (.bool (a == b)) w := by
  exact Lib.run_eql_iface_int (P := Tryz.prog) w a b Tryz.underlying100 (by kernel_rfl) Tryz.underlying31
set_option maxHeartbeats 4000000 in
theorem is_nil (b : Int) (w : World) :
    Calls Tryz.prog 55 #[.nilIface, .iface 31 (.int .i64 b)] w fun e w' => e = .returned (.bool false) ∧ w = w' := by
  have hn := run_eql_iface_nil_left (P := Tryz.prog) w 31 (.int .i64 b) Tryz.underlying100
  go_enter Tryz.func55, Tryz.ntmps55
  go_wp2
  go_ret
  exact ⟨rfl, rfl⟩
set_option maxHeartbeats 4000000 in
/-- errors.Is(broken{a}, b), a and b codes. -/
theorem is_broken (a b : Int) (w : World) :
    Calls Tryz.prog 55 #[.iface 176 (.agg #[.iface 31 (.int .i64 a)]), .iface 31 (.int .i64 b)] w fun e w' => e = .returned (.bool (a == b)) ∧ Below w.heap.size w w' := by
  have hto := @run_callFunc_extern Tryz.prog 97 _ ReflectliteType.typeOf Tryz.func97 (by kernel_rfl) (by kernel_rfl) (by kernel_rfl) (by kernel_rfl)
  have hcm := @run_callFunc_extern Tryz.prog 186 _ (ReflectliteType.method fun t => do Rtype.noPackHeld "Comparable" t; pure (.bool (← typeInfo t).comparable)) Tryz.func186 (by kernel_rfl) (by kernel_rfl) (by kernel_rfl) (by kernel_rfl)
  have tT := is_typeOf
  have cT := is_comparable
  have mR := is_methodComparable
  have nE := is_noIsE
  have uE := is_noUnwrapE
  have vE := is_noUnwrapsE
  have nB := is_noIsB
  have uB := is_unwrapB
  have mU := is_methodUnwrapB
  have hq := is_eqE a b
  have hty := fun (v : Value) (w : World) => run_eql_iface_types (P := Tryz.prog) 176 31 v (.int .i64 b) Tryz.underlying100 (by decide) w
  obtain ⟨c, hc⟩ : ∃ c, (a == b) = c := ⟨_, rfl⟩
  rw [hc] at hq ⊢
  clear hc
  cases c
  all_goals
    go_enter Tryz.func55, Tryz.ntmps55
    go_wp2
    refine wp_loop_rounds 2 ?_
    rw [rounds_succ]
    go_wp2
    rw [rounds_succ]
    go_wp2
    go_ret
    exact ⟨rfl, below_alloc (Below.refl _ _) _⟩
end
set_option maxHeartbeats 800000 in
set_option maxRecDepth 100000 in
/-- num.NewReader(b): a reader of the same bytes, at their beginning; w1: the world in which the bytes' own copy lies already. -/
theorem rd_new (A0 : Option Addr) (c0 : Nat) (l0 : List Int) (w : World) (hr0 : Kd.C (Kd.int .u8) w A0 l0.length l0) (hc0 : l0.length ≤ c0) (hl : l0.length < 140737488355328) :
    Calls Tryz.prog 87 #[.slice A0 l0.length c0] w fun e w' => ∃ g w1, e = .returned (.pointer (some ⟨g, 0, none⟩)) ∧ RD w1 w' g l0 0 0 0 ∧ Below w.heap.size w w1 ∧ Below w1.heap.size w1 w' := by
  have HR := Aside0.mk hr0
  have HC := Aside0.mk hc0
  have HL := Aside0.mk hl
  clear hr0 hc0 hl
  go_enter Tryz.func87, Tryz.ntmps87
  go_wp2_with fail
  refine (bytes_Clone.calls A0 c0 l0 l0 _ HR.out HC.out (by unfold bytes_Clone.f; rw [if_pos HL.out])).mono ?_
  rintro e w1 ⟨v, rfl, hr, hb⟩
  obtain ⟨A, c, rfl⟩ := Kd.R_slice hr
  have H1 := Aside0.mk (Kd.R_reads' hr).2
  have H2 := Aside0.mk hb
  clear hr hb
  go_wp2
  go_ret
  exact ⟨_, w1, rfl, ⟨A, c, _, heap_alloc_new w1 _, Nat.le_refl _, H1.out.2, H1.out.1, .inl ⟨rfl, rfl, rfl⟩⟩, H2.out, below_alloc (Below.refl _ _) _⟩
end Go.Proofs.YtjmhiklmlgbifaaGreatDoor.PMan
end

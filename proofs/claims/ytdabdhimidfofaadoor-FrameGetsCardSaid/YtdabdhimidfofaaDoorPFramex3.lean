-- Printed for this claim by a program of this session's own (it runs the kit's print another way): Lean checks it.
import Derived.Test.YtdabdhimidfofaaDoorPFramex0
import Derived.Test.YtdabdhimidfofaaDoorPFramex1
import Derived.Test.YtdabdhimidfofaaDoorPFramex2
namespace Go.Proofs.YtdabdhimidfofaaDoor.PFrame
open Go.RowKit Go.Proofs.YtdabdhimidfofaaDoorW.PrintWords Go.Proofs.YtdabdhimidfofaaDoorW.PrintLast Go.Proofs.YtdabdhimidfofaaDoorW.PrintMore
attribute [local go_sem] max2_int min2_int max_two min_two max_three min_three max_four min_four   -- for this text's walks alone
set_option linter.unusedVariables false
set_option linter.unusedSimpArgs false

/-! ### frame_Put: function 9 -/
def frame_Put.f (k : Nat) (l0 : List Int) : Option (List Int × Int) := if (l0.length : Int) > 16777216 then (some (([] : List Int), 12)) else ((num_PutFix.f k ([] : List Int) (IntKind.u64.wrap ((l0.length : Int))) 4).bind fun t105 => ((crc_Sum.f t105).bind fun t108 => ((crc_More.f t108 l0).bind fun t109 => ((num_PutFix.f k t105 (IntKind.u64.wrap (t109)) 4).bind fun t110 => (if t110.length + l0.length < 140737488355328 then (some ((t110 ++ l0), 0)) else (none))))))
theorem frame_Put.mono : ∀ a0 k, LeO (frame_Put.f k a0) (frame_Put.f (k + 1) a0) := by
  intro a0 k
  unfold frame_Put.f
  repeat' first
      | (with_reducible exact num_PutFix.mono _ _ _ _)
      | (with_reducible exact LeO.refl _)
      | (with_reducible exact LeO.none _)
      | (with_reducible refine LeO.ite ?_ ?_)
      | (with_reducible refine LeO.bind ?_ (fun _ => ?_))
      | exact num_PutFix.mono _ _ _ _
      | exact LeO.none _
      | refine LeO.ite ?_ ?_
      | refine LeO.bind ?_ (fun _ => ?_)
set_option maxHeartbeats 8000000 in
set_option maxRecDepth 100000 in
theorem frame_Put.calls (k : Nat) (A0 : Option Addr) (c0 : Nat) (l0 : List Int) (r1 : List Int) (r2 : Int) (w : World) (hr0 : Kd.C (Kd.int .u8) w A0 l0.length l0) (hc0 : l0.length ≤ c0) (h : frame_Put.f k l0 = some (r1, r2)) :
    Calls Tryd.prog 9 #[.slice A0 l0.length c0] w fun e w' => ∃ v0_ : Value, e = .returned (.tuple #[v0_, .int .i64 r2]) ∧ Kd.R (Kd.int .u8) 5 w' w.heap.size (fun _ => True) v0_ r1 ∧ Below w.heap.size w w' := by
  have HR0 := Aside0.mk hr0
  have HC0 := Aside0.mk hc0
  clear hr0 hc0
  have HB := Aside0.mk (Below.refl w.heap.size w)
  have H : (if (l0.length : Int) > 16777216 then (some (([] : List Int), 12)) else ((num_PutFix.f k ([] : List Int) (IntKind.u64.wrap ((l0.length : Int))) 4).bind fun t105 => ((crc_Sum.f t105).bind fun t108 => ((crc_More.f t108 l0).bind fun t109 => ((num_PutFix.f k t105 (IntKind.u64.wrap (t109)) 4).bind fun t110 => (if t110.length + l0.length < 140737488355328 then (some ((t110 ++ l0), 0)) else (none))))))) = some (r1, r2) := h
  clear h
  by_cases c2 : (l0.length : Int) > 16777216
  · rw [if_pos c2] at H
    have c2b0 : decide (16777216 < (l0.length : Int)) = true := decide_eq_true c2
    have c2b1 : decide (16777216 < l0.length) = true := decide_eq_true (by omega)
    clear c2
    simp only [Option.some.injEq, Prod.mk.injEq] at H
    obtain ⟨rfl, rfl⟩ := H
    go_enter Tryd.func9, Tryd.ntmps9
    go_wp2
    go_ret2
    exact ⟨_, by first | rfl | (simp [errW_none, errW_some] <;> rfl) | (simp [*, errW_none, errW_some] <;> rfl), by first | exact Kd.R_nil _ _ _ _ _ | exact Kd.N_nil _ _ _ _ _ | exact Kd.V_nil _ _ _ _ _ | exact Kd.Q_nil _ _ _ _ _ | exact Kd.S_nil _ _ _ _ _, by repeat (first | (with_reducible first | exact HB.out | apply below_alloc | apply pw_below_drewN | apply below_drew1) | exact HB.out)⟩
  · rw [if_neg c2] at H
    have c2b0 : decide (16777216 < (l0.length : Int)) = false := decide_eq_false c2
    have c2b1 : decide (16777216 < l0.length) = false := decide_eq_false (by omega)
    clear c2
    replace H := Option.bind_eq_some_iff.mp H
    obtain ⟨t105, A30, H⟩ := H
    replace H : ((crc_Sum.f t105).bind fun t108 => ((crc_More.f t108 l0).bind fun t109 => ((num_PutFix.f k t105 (IntKind.u64.wrap (t109)) 4).bind fun t110 => (if t110.length + l0.length < 140737488355328 then (some ((t110 ++ l0), 0)) else (none))))) = some (r1, r2) := H
    have A3 := Aside0.mk A30
    clear A30
    replace H := Option.bind_eq_some_iff.mp H
    obtain ⟨t108, A40, H⟩ := H
    replace H : ((crc_More.f t108 l0).bind fun t109 => ((num_PutFix.f k t105 (IntKind.u64.wrap (t109)) 4).bind fun t110 => (if t110.length + l0.length < 140737488355328 then (some ((t110 ++ l0), 0)) else (none)))) = some (r1, r2) := H
    have A4 := Aside0.mk A40
    clear A40
    replace H := Option.bind_eq_some_iff.mp H
    obtain ⟨t109, A50, H⟩ := H
    replace H : ((num_PutFix.f k t105 (IntKind.u64.wrap (t109)) 4).bind fun t110 => (if t110.length + l0.length < 140737488355328 then (some ((t110 ++ l0), 0)) else (none))) = some (r1, r2) := H
    have A5 := Aside0.mk A50
    clear A50
    replace H := Option.bind_eq_some_iff.mp H
    obtain ⟨t110, A60, H⟩ := H
    replace H : (if t110.length + l0.length < 140737488355328 then (some ((t110 ++ l0), 0)) else (none)) = some (r1, r2) := H
    have A6 := Aside0.mk A60
    clear A60
    by_cases c7 : t110.length + l0.length < 140737488355328
    · rw [if_pos c7] at H
      have LMc7 := Aside0.mk c7
      clear c7
      obtain ⟨y113, hy113⟩ : ∃ y_ : List Int, y_ = (t110 ++ l0) := ⟨_, rfl⟩
      replace H : (some (y113, 0)) = some (r1, r2) := by first | (rw [hy113]; with_reducible exact H) | (have H2_ := (Option.bind_some _ _).symm.trans H; rw [hy113]; with_reducible exact H2_) | (have H2_ := (Option.bind_some _ _).symm.trans H; with_reducible exact H2_) | with_reducible exact H | (rw [hy113]; exact H) | exact H
      have Ny113 := Aside0.mk hy113
      clear hy113
      simp only [Option.some.injEq, Prod.mk.injEq] at H
      obtain ⟨rfl, rfl⟩ := H
      go_enter Tryd.func9, Tryd.ntmps9
      go_wp2_with (first | ((with_reducible refine gate_callee (f := 18) rfl ?_); refine goesL_ (some 11) rfl rfl Tryd.func18 (by kernel_rfl) rfl #[.slice none 0 0, .int .u64 (IntKind.u64.wrap ((l0.length : Int))), .int .i64 4] rfl (by (try simp only [List.map_toArray, List.map_cons, List.map_nil]); first | done | rfl | (simp only [List.length_drop, List.length_take]; rfl)) ?_; (refine (num_PutFix.calls k (fun k_ => some k_ = (.slice none 0 0 : Value).ownBlock) (.slice none 0 0) ([] : List Int) (IntKind.u64.wrap ((l0.length : Int))) 4 t105 w _ ?side1 ?side2 A3.out).mono ?_); (case side1 => repeat (first | (with_reducible first | exact HB.out | apply below_alloc | apply pw_below_drewN | apply below_drew1) | exact HB.out)); (case side2 => exact Kd.R_nil _ _ _ _ _); rintro e w8 ⟨v106, rfl, ho0, hb, hkp⟩; refine ⟨_, rfl, ?_⟩; have n0_ := Aside0.mk (Kd.R_mono (ok' := fun k_ => True) ho0 (fun k_ hk_ => trivial)); have n1_ := Aside0.mk (hb); clear HB; have HO107 := n0_; have HB := n1_; clear n0_ n1_; (try clear hb); (try clear hkp); (try clear ho0); obtain ⟨Ao9, co9, eo9⟩ := Kd.R_slice HO107.out; subst eo9) | ((with_reducible refine gate_callee (f := 20) rfl ?_); refine goesL_ (some 14) rfl rfl Tryd.func20 (by kernel_rfl) rfl #[.slice Ao9 t105.length co9] rfl (by (try simp only [List.map_toArray, List.map_cons, List.map_nil]); first | done | rfl | (simp only [List.length_drop, List.length_take]; rfl)) ?_; (with_reducible refine (crc_Sum.calls _ _ t105 t108 _ ?side1 ?side2 A4.out).mono ?_); (case side1 => repeat (first | exact (Kd.R_reads' HO107.out).2.2 | (with_reducible refine Kd.C_alloc ?_ _) | (with_reducible refine Kd.C_drewN ?_ _) | (with_reducible refine Kd.C_drew ?_))); (case side2 => exact (Kd.R_reads' HO107.out).2.1); rintro e w10 ⟨rfl, hb⟩; refine ⟨_, rfl, ?_⟩; have n0_ := Aside0.mk (Kd.R_below (by (with_reducible repeat (first | apply Kd.R_alloc | apply Kd.R_drewN | apply Kd.R_drew)); exact HO107.out) hb); have n1_ := Aside0.mk (below_step (by repeat (first | (with_reducible first | exact HB.out | apply below_alloc | apply pw_below_drewN | apply below_drew1) | exact HB.out)) hb); clear HO107; clear HB; have HO107 := n0_; have HB := n1_; clear n0_ n1_; (try clear hb); (try clear hb2); (try clear hk); (try clear hi)) | ((with_reducible refine gate_callee (f := 19) rfl ?_); refine goesL_ (some 16) rfl rfl Tryd.func19 (by kernel_rfl) rfl #[.int .u32 t108, .slice A0 l0.length c0] rfl (by (try simp only [List.map_toArray, List.map_cons, List.map_nil]); first | done | rfl | (simp only [List.length_drop, List.length_take]; rfl)) ?_; (with_reducible refine (crc_More.calls t108 _ _ l0 t109 _ ?side1 ?side2 A5.out).mono ?_); (case side1 => repeat (first | exact (Kd.C_below HR0.out HB.out) | (with_reducible refine Kd.C_alloc ?_ _) | (with_reducible refine Kd.C_drewN ?_ _) | (with_reducible refine Kd.C_drew ?_))); (case side2 => exact HC0.out); rintro e w11 ⟨rfl, hb⟩; refine ⟨_, rfl, ?_⟩; have n0_ := Aside0.mk (Kd.R_below (by (with_reducible repeat (first | apply Kd.R_alloc | apply Kd.R_drewN | apply Kd.R_drew)); exact HO107.out) hb); have n1_ := Aside0.mk (below_step (by repeat (first | (with_reducible first | exact HB.out | apply below_alloc | apply pw_below_drewN | apply below_drew1) | exact HB.out)) hb); clear HO107; clear HB; have HO107 := n0_; have HB := n1_; clear n0_ n1_; (try clear hb); (try clear hb2); (try clear hk); (try clear hi)) | ((with_reducible refine gate_callee (f := 18) rfl ?_); refine goesL_ (some 18) rfl rfl Tryd.func18 (by kernel_rfl) rfl #[.slice Ao9 t105.length co9, .int .u64 (IntKind.u64.wrap (t109)), .int .i64 4] rfl (by (try simp only [List.map_toArray, List.map_cons, List.map_nil]); first | done | rfl | (simp only [List.length_drop, List.length_take]; rfl)) ?_; (with_reducible refine (num_PutFix.calls k (fun k_ => some k_ = (.slice Ao9 t105.length co9 : Value).ownBlock) (.slice Ao9 t105.length co9) t105 (IntKind.u64.wrap (t109)) 4 t110 w _ ?side1 ?side2 A6.out).mono ?_); (case side1 => repeat (first | (with_reducible first | exact HB.out | apply below_alloc | apply pw_below_drewN | apply below_drew1) | exact HB.out)); (case side2 => exact Kd.R_tight rfl HO107.out); rintro e w12 ⟨v111, rfl, ho0, hb, hkp⟩; refine ⟨_, rfl, ?_⟩; have n0_ := Aside0.mk (Kd.R_mono (ok' := fun k_ => True) ho0 (fun k_ hk_ => trivial)); have n1_ := Aside0.mk (hb); clear HB; clear HO107; have HO112 := n0_; have HB := n1_; clear n0_ n1_; (try clear hb); (try clear hkp); (try clear ho0)) | ((with_reducible refine gate_builtin (b := .append) (xs := #[.tmp 19, .tmp 20]) rfl ?_); at_builtin; refine Kd.R_append_rows (Kd.int .u8) (w0 := w) w.heap.size rfl (.tmp 19) (.tmp 20) 22 5 (.int .u8 0) 1 rfl Tryd.underlying22 info5 rfl (by decide) (by omega) v111 t110 l0 _ _ _ (fun _ => True) (fun _ => False) rfl rfl ?aO ?aR (fun _ _ h => h) (fun _ h => h.elim) ?aF ?aB ?aS ?aL ?_; (case aR => repeat (first | exact (Kd.C_below HR0.out HB.out) | (with_reducible refine Kd.C_alloc ?_ _) | (with_reducible refine Kd.C_drewN ?_ _) | (with_reducible refine Kd.C_drew ?_))); (case aB => exact (by repeat (first | (with_reducible first | exact HB.out | apply below_alloc | apply pw_below_drewN | apply below_drew1) | exact HB.out))); (case aF => exact (fun _ _ => trivial)); (case aO => exact (by (with_reducible repeat (first | apply Kd.R_alloc | apply Kd.R_drewN | apply Kd.R_drew)); exact HO112.out)); (case aS => exact (below_size (by repeat (first | (with_reducible first | exact HB.out | apply below_alloc | apply pw_below_drewN | apply below_drew1) | exact HB.out)))); (case aL => have := LMc7.out; omega); intro v114 w13 ho hb hg hat; rw [← Ny113.out] at ho; have n0_ := Aside0.mk (hb); have n1_ := Aside0.mk (ho); clear HB; clear HO112; have HB := n0_; have HO115 := n1_; clear n0_ n1_; clear ho hb hg hat))
      go_ret2
      exact ⟨_, by first | rfl | (simp [errW_none, errW_some] <;> rfl) | (simp [*, errW_none, errW_some] <;> rfl), by (with_reducible repeat (first | apply Kd.R_alloc | apply Kd.R_drewN | apply Kd.R_drew)); exact HO115.out, by repeat (first | (with_reducible first | exact HB.out | apply below_alloc | apply pw_below_drewN | apply below_drew1) | exact HB.out)⟩
    · rw [if_neg c7] at H
      exact absurd H (by simp)

/-! ### bytes_Clone: function 32 -/
theorem clone_info : (Tryd.prog.info? 5).map (fun i => (i.zero, i.size, i.bytes)) = some (some (.int .u8 0), 1, 1) := by kernel_rfl
theorem slice_nil_in (A : Option Addr) (n c d : Nat) (W : World) : (Op.equalIn (d + 1) 22 (.slice A n c) (.slice none 0 0)).run Tryd.prog W = .ok A.isNone W := by
  cases A <;> simp [Op.equalIn, run_underlying Tryd.underlying22]
theorem slice_nil (A : Option Addr) (n c : Nat) (W : World) : (binOp .eql 22 (.slice A n c) (.slice none 0 0)).run Tryd.prog W = .ok (.bool A.isNone) W := by
  have h : (Op.equal 22 (.slice A n c) (.slice none 0 0)).run Tryd.prog W = .ok A.isNone W := slice_nil_in A n c 9999 W
  simp [binOp, h]
def bytes_Clone.f (l0 : List Int) : Option (List Int) := if l0.length < 140737488355328 then some l0 else none
set_option maxHeartbeats 800000 in
set_option maxRecDepth 100000 in
theorem bytes_Clone.calls (A0 : Option Addr) (c0 : Nat) (l0 : List Int) (r : List Int) (w : World) (hr0 : Kd.C (Kd.int .u8) w A0 l0.length l0) (hc0 : l0.length ≤ c0) (h : bytes_Clone.f l0 = some r) :
    Calls Tryd.prog 32 #[.slice A0 l0.length c0] w fun e w' => ∃ v0_ : Value, e = .returned v0_ ∧ Kd.R (Kd.int .u8) 5 w' w.heap.size (fun _ => True) v0_ r ∧ Below w.heap.size w w' := by
  unfold bytes_Clone.f at h
  by_cases hl : l0.length < 140737488355328
  · rw [if_pos hl] at h
    obtain rfl := Option.some.inj h
    have HL := Aside0.mk hl
    have HR0 := Aside0.mk hr0
    clear h hl hr0
    cases A0 with
    | none =>
      have hz : l0 = [] := by
        cases l0 with
        | nil => rfl
        | cons x l =>
          obtain ⟨ad, e, _⟩ := Kd.at_int HR0.out 0 (by omega) (by simp)
          cases e
      subst hz
      have hn := slice_nil none
      go_enter Tryd.func32, Tryd.ntmps32
      go_wp2
      go_ret
      exact ⟨_, rfl, Kd.R_nil _ _ _ _ _, Below.refl _ _⟩
    | some ad =>
      have HB := Aside0.mk (Below.refl w.heap.size w)
      have HC0 := Aside0.mk hc0
      clear hc0
      have hn := slice_nil (some ad)
      go_enter Tryd.func32, Tryd.ntmps32
      go_wp2_with (first | ((with_reducible refine gate_dst (N := 5) rfl ?_); refine Kd.R_lit (Kd.int .u8) _ 5 ?hg (N := 5) ?hd (xs := ([] : List Int)) (inner := []) (ok := fun _ => True) (okp := fun _ => True) ?hr ?hp (fun _ hk => hk) trivial (Below.refl _ _) (Nat.le_refl _) (by simp) ?_; (case hd => rfl); (case hg => rfl); (case hr => first | (go_simp; done) | (go_simp; rfl)); (case hp => exact (Reps.none _ _)); intro v5 w5 ho hb hg_ hnew_; clear hg_ hnew_; have HO := Aside0.mk (Kd.R_lower ho (below_size HB.out)); have HB1 := Aside0.mk (below_step HB.out hb); clear ho hb) | ((with_reducible refine gate_builtin (b := .append) (xs := #[.tmp 5, .tmp 6]) rfl ?_); at_builtin; refine Kd.R_append_rows (Kd.int .u8) (w0 := w) w.heap.size rfl (.tmp 5) (.tmp 6) 22 5 (.int .u8 0) 1 rfl Tryd.underlying22 clone_info rfl (by decide) (by omega) v5 [] l0 _ _ _ (fun _ => True) (fun _ => False) rfl rfl ?aO ?aR (fun _ _ h => h) (fun _ h => h.elim) ?aF ?aB ?aS ?aL ?_; (case aR => exact Kd.C_below HR0.out HB1.out); (case aB => exact HB1.out); (case aF => exact (fun _ _ => trivial)); (case aO => exact HO.out); (case aS => exact below_size HB1.out); (case aL => have := HL.out; simp only [List.length_nil]; omega); intro v7 w7 ho hb hg hat; rw [List.nil_append] at ho; have HB2 := Aside0.mk hb; have HO2 := Aside0.mk ho; clear ho hb hg hat))
      go_ret
      exact ⟨_, rfl, HO2.out, HB2.out⟩
  · rw [if_neg hl] at h
    cases h

/-! ### words: rd -/
/-- What a reader's error is: none (0, 0), or a fault: its code and its place. -/
def RdErr (w0 W : World) (ev : Value) (ec ep : Int) : Prop :=
  (ec = 0 ∧ ep = 0 ∧ ev = .nilIface) ∨ (ec ≠ 0 ∧ ∃ h, w0.heap.size ≤ h ∧ ev = .iface 77 (.pointer (some ⟨h, 0, none⟩)) ∧ W.heap[h]? = some (.cells #[.int .i64 ep, .iface 24 (.int .i64 ec)] 82 (0, 0)))
/-- A reader at block g of W: its bytes (which came in by w0), its place, its error's code and place. -/
def RD (w0 W : World) (g : Nat) (f0 : List Int) (f1 f2 f3 : Int) : Prop :=
  ∃ A c ev, W.heap[g]? = some (.cells #[.slice A f0.length c, .int .i64 f1, ev] 75 (0, 0)) ∧ w0.heap.size ≤ g ∧ Kd.C (Kd.int .u8) w0 A f0.length f0 ∧ f0.length ≤ c ∧ RdErr w0 W ev f2 f3
theorem RdErr.move {w0 W W1 : World} {ev : Value} {ec ep : Int} (h : RdErr w0 W ev ec ep) (hw : ∀ k, w0.heap.size ≤ k → ∀ cs, W.heap[k]? = some (.cells cs 82 (0, 0)) → W1.heap[k]? = W.heap[k]?) : RdErr w0 W1 ev ec ep := by
  rcases h with h | ⟨h1, k, h2, h3, h4⟩
  · exact .inl h
  · exact .inr ⟨h1, k, h2, h3, (hw k h2 _ h4).trans h4⟩
theorem RD.below {w0 W W1 : World} {g : Nat} {f0 : List Int} {f1 f2 f3 : Int} (h : RD w0 W g f0 f1 f2 f3) (hb : Below W.heap.size W W1) : RD w0 W1 g f0 f1 f2 f3 := by
  obtain ⟨A, c, ev, h1, h2, h3, h4, h5⟩ := h
  exact ⟨A, c, ev, (hb.block g (blk_lt h1)).trans h1, h2, h3, h4, h5.move fun k _ cs hk => hb.block k (blk_lt hk)⟩
theorem RD.drewN {w0 W : World} {g : Nat} {f0 : List Int} {f1 f2 f3 : Int} (h : RD w0 W g f0 f1 f2 f3) (n : Nat) : RD w0 (W.drewN n) g f0 f1 f2 f3 := h
theorem RD.drew {w0 W : World} {g : Nat} {f0 : List Int} {f1 f2 f3 : Int} (h : RD w0 W g f0 f1 f2 f3) : RD w0 W.drew g f0 f1 f2 f3 := h
theorem RD.lt {w0 W : World} {g : Nat} {f0 : List Int} {f1 f2 f3 : Int} (h : RD w0 W g f0 f1 f2 f3) : g < W.heap.size := by
  obtain ⟨A, c, ev, h1, _⟩ := h
  exact blk_lt h1
/-- The reader's place turned. -/
theorem RD.set_at {w0 W : World} {g : Nat} {f0 : List Int} {f1 f2 f3 : Int} (h : RD w0 W g f0 f1 f2 f3) (x : Int) : RD w0 (W.setCell ⟨g, 1, none⟩ (.int .i64 x)) g f0 x f2 f3 := by
  obtain ⟨A, c, ev, h1, h2, h3, h4, h5⟩ := h
  refine ⟨A, c, ev, by simpa using blk_set h1 1 (.int .i64 x), h2, h3, h4, h5.move fun k _ cs hk => ?_⟩
  refine Below.heap_setCell W _ _ k (fun e => ?_)
  subst e
  rw [h1] at hk
  injection hk with hk
  injection hk with _ ht
  exact absurd ht (by decide)
theorem KeepBut.set1 {w W : World} {g : Nat} (h : KeepBut w W g none) (j : Nat) (u : Value) : KeepBut w (W.setCell ⟨g, j, none⟩ u) g none := h.set_ j u
theorem KeepBut.below_ {w W W1 : World} {g : Nat} (h : KeepBut w W g none) (hb : Below W.heap.size W W1) : KeepBut w W1 g none :=
  ⟨Nat.le_trans h.1 hb.size, fun i hi h1 h2 => (hb.block i (Nat.lt_of_lt_of_le hi h.1)).trans (h.2 i hi h1 h2)⟩

/-! ### num_NewReader: function 29 -/
set_option maxHeartbeats 800000 in
set_option maxRecDepth 100000 in
/-- num.NewReader(b): a reader of the same bytes, at their beginning; w1: the world in which the bytes' own copy lies already. -/
theorem rd_new (A0 : Option Addr) (c0 : Nat) (l0 : List Int) (w : World) (hr0 : Kd.C (Kd.int .u8) w A0 l0.length l0) (hc0 : l0.length ≤ c0) (hl : l0.length < 140737488355328) :
    Calls Tryd.prog 29 #[.slice A0 l0.length c0] w fun e w' => ∃ g w1, e = .returned (.pointer (some ⟨g, 0, none⟩)) ∧ RD w1 w' g l0 0 0 0 ∧ Below w.heap.size w w1 ∧ Below w1.heap.size w1 w' := by
  have HR := Aside0.mk hr0
  have HC := Aside0.mk hc0
  have HL := Aside0.mk hl
  clear hr0 hc0 hl
  go_enter Tryd.func29, Tryd.ntmps29
  go_wp2_with fail
  refine (bytes_Clone.calls A0 c0 l0 l0 _ HR.out HC.out (by unfold bytes_Clone.f; rw [if_pos HL.out])).mono ?_
  rintro e w1 ⟨v, rfl, hr, hb⟩
  obtain ⟨A, c, rfl⟩ := Kd.R_slice hr
  have H1 := Aside0.mk (Kd.R_reads' hr).2
  have H2 := Aside0.mk hb
  clear hr hb
  go_wp2
  go_ret
  exact ⟨_, w1, rfl, ⟨A, c, _, heap_alloc_new w1 _, Nat.le_refl _, H1.out.2, H1.out.1, .inl ⟨rfl, rfl, rfl⟩⟩, H2.out, below_alloc (Below.refl _ _) _⟩

/-! ### num_Reader_ok: function 37 -/
def num_Reader_ok.f (s0 : List Int) (s1 s2 s3 : Int) : Option (Bool × Int × Int × Int) := some (s2 == 0, s1, s2, s3)
set_option maxHeartbeats 800000 in
set_option maxRecDepth 100000 in
/-- r.ok(): nothing turns. -/
theorem rd_ok (g : Nat) (s0 : List Int) (s1 s2 s3 : Int) (w0 w : World) (hI : RD w0 w g s0 s1 s2 s3) :
    Calls Tryd.prog 37 #[.pointer (some ⟨g, 0, none⟩)] w fun e w' => e = .returned (.bool (s2 == 0)) ∧ w = w' := by
  obtain ⟨A, c, ev, h1, h2, h3, h4, h5⟩ := hI
  have hc := blk_cell h1 2
  simp only [List.getElem?_toArray] at hc
  rcases h5 with ⟨rfl, rfl, rfl⟩ | ⟨hne, k, _, rfl, hk⟩
  · go_enter Tryd.func37, Tryd.ntmps37
    go_wp2
    go_ret
    exact ⟨rfl, rfl⟩
  · have hf : (s2 == 0) = false := by simpa using hne
    go_enter Tryd.func37, Tryd.ntmps37
    go_wp2
    go_ret
    exact ⟨by rw [hf]; rfl, rfl⟩
theorem num_Reader_ok.calls (g : Nat) (s0 : List Int) (s1 s2 s3 : Int) (r1 : Bool) (r2 r3 r4 : Int) (w0 w : World) (hI : RD w0 w g s0 s1 s2 s3) (hB : Below w0.heap.size w0 w) (h : num_Reader_ok.f s0 s1 s2 s3 = some (r1, r2, r3, r4)) :
    Calls Tryd.prog 37 #[.pointer (some ⟨g, 0, none⟩)] w fun e w' => e = .returned (.bool r1) ∧ RD w0 w' g s0 r2 r3 r4 ∧ Below w0.heap.size w0 w' ∧ KeepBut w w' g none := by
  simp only [num_Reader_ok.f, Option.some.injEq, Prod.mk.injEq] at h
  obtain ⟨rfl, rfl, rfl, rfl⟩ := h
  refine (rd_ok g s0 s1 s2 s3 w0 w hI).mono ?_
  rintro e w' ⟨rfl, rfl⟩
  exact ⟨rfl, hI, hB, KeepBut.refl _ _ _⟩

end Go.Proofs.YtdabdhimidfofaaDoor.PFrame

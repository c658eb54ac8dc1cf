/- Texts of this proof, put into one: PManx22, PManx23, PManx24, PManx25, PManx26, PManx27, PManx28, PManx29. -/
import Derived.Test.YtjmhiklmlgbifaaGreatDoorPManx0
import Derived.Test.YtjmhiklmlgbifaaGreatDoorPManx9
import Derived.Test.YtjmhiklmlgbifaaGreatDoorPManx10
import Derived.Test.YtjmhiklmlgbifaaGreatDoorPManx15
import Derived.Test.YtjmhiklmlgbifaaGreatDoorPManx17
import Derived.Test.YtjmhiklmlgbifaaGreatDoorPManx5
section
-- Printed for this claim by a program of this session's own (it runs the kit's print another way): Lean checks it.
namespace Go.Proofs.YtjmhiklmlgbifaaGreatDoor.PMan
open Go.RowKit Go.Proofs.YtjmhiklmlgbifaaGreatDoorW.PrintWords Go.Proofs.YtjmhiklmlgbifaaGreatDoorW.PrintLast Go.Proofs.YtjmhiklmlgbifaaGreatDoorW.PrintMore
attribute [local go_sem] max2_int min2_int max_two min_two max_three min_three max_four min_four   -- for this text's walks alone
set_option linter.unusedVariables false
set_option linter.unusedSimpArgs false

/-! ### manifest_PutChunks: function 23 -/
def manifest_PutChunks.l0 : Nat → List Int → List (List Int) → Int → Int → Option (List Int × Int)
  | 0, _, _, _, _ => none
  | k + 1, x4, x9, x10, x11 => if x11 < x10 then (if 0 ≤ x11 then (if x11 < (x9.length : Int) then ((frame_Put.f k (rd_L7 x9 x11)).bind fun bt174 => (if bt174.2 = 0 then (if x4.length + bt174.1.length < 140737488355328 then (manifest_PutChunks.l0 k (x4 ++ bt174.1) x9 x10 (wrap64 (x11 + 1))) else (none)) else (some (([] : List Int), bt174.2)))) else (none)) else (none)) else (some (x4, 0))
def manifest_PutChunks.f (k : Nat) (l0 : List (List Int)) : Option (List Int × Int) := manifest_PutChunks.l0 k ([] : List Int) l0 (l0.length : Int) 0
theorem manifest_PutChunks.mono_l : ∀ k, (∀ y0 y1 y2 y3, LeO (manifest_PutChunks.l0 k y0 y1 y2 y3) (manifest_PutChunks.l0 (k + 1) y0 y1 y2 y3))
  | 0 => fun _ _ _ _ r h => by simp [manifest_PutChunks.l0] at h
  | k + 1 => by
    have ih0 := manifest_PutChunks.mono_l k
    · intro y0 y1 y2 y3
      unfold manifest_PutChunks.l0
      repeat' first
      | (with_reducible exact ih0 _ _ _ _)
      | (with_reducible exact frame_Put.mono _ _)
      | (with_reducible exact LeO.refl _)
      | (with_reducible exact LeO.none _)
      | (with_reducible refine LeO.ite ?_ ?_)
      | (with_reducible refine LeO.bind ?_ (fun _ => ?_))
      | exact ih0 _ _ _ _
      | exact frame_Put.mono _ _
      | exact LeO.none _
      | refine LeO.ite ?_ ?_
      | refine LeO.bind ?_ (fun _ => ?_)
theorem manifest_PutChunks.mono : ∀ a0 k, LeO (manifest_PutChunks.f k a0) (manifest_PutChunks.f (k + 1) a0) := by
  intro a0 k
  have ih0 := manifest_PutChunks.mono_l k
  unfold manifest_PutChunks.f
  repeat' first
      | (with_reducible exact ih0 _ _ _ _)
      | (with_reducible exact frame_Put.mono _ _)
      | (with_reducible exact LeO.refl _)
      | (with_reducible exact LeO.none _)
      | (with_reducible refine LeO.ite ?_ ?_)
      | (with_reducible refine LeO.bind ?_ (fun _ => ?_))
      | exact ih0 _ _ _ _
      | exact frame_Put.mono _ _
      | exact LeO.none _
      | refine LeO.ite ?_ ?_
      | refine LeO.bind ?_ (fun _ => ?_)
set_option maxHeartbeats 8000000 in
set_option maxRecDepth 100000 in
theorem manifest_PutChunks.calls (k : Nat) (A0 : Option Addr) (c0 : Nat) (l0 : List (List Int)) (r1 : List Int) (r2 : Int) (w : World) (hr0 : Kd.C (Kd.slice 5 (Kd.int .u8)) w A0 l0.length l0) (hc0 : l0.length ≤ c0) (h : manifest_PutChunks.f k l0 = some (r1, r2)) :
    Calls Tryz.prog 23 #[.slice A0 l0.length c0] w fun e w' => ∃ v0_ : Value, e = .returned (.tuple #[v0_, .int .i64 r2]) ∧ Kd.R (Kd.int .u8) 5 w' w.heap.size (fun _ => True) v0_ r1 ∧ Below w.heap.size w w' := by
  have HR0 := Aside0.mk hr0
  have HC0 := Aside0.mk hc0
  clear hr0 hc0
  have HB := Aside0.mk (Below.refl w.heap.size w)
  have H : (manifest_PutChunks.l0 k ([] : List Int) l0 (l0.length : Int) 0) = some (r1, r2) := h
  clear h
  have H' := Aside0.mk H
  clear H
  go_enter Tryz.func23, Tryz.ntmps23
  go_wp2
  go_loopg [4, 11] k (fun kq v4 v11 w' => ∃ (x4_1 : List Int) (x11_1 : Int), v11 = .int .i64 x11_1 ∧ Aside0 (manifest_PutChunks.l0 kq x4_1 l0 (l0.length : Int) x11_1 = some (r1, r2)) ∧ Aside0 (kq ≤ k) ∧ Aside0 (Kd.R (Kd.int .u8) 5 w' w.heap.size (fun _ => True) v4 x4_1) ∧ Aside0 (Below w.heap.size w w'))
  case atStart => exact ⟨(([] : List Int)), (0), (by first | rfl | (simp; done) | (simp [*]; done)), H', ⟨Nat.le_refl _⟩, ⟨by first | exact Kd.R_nil _ _ _ _ _ | exact Kd.N_nil _ _ _ _ _ | exact Kd.V_nil _ _ _ _ _ | exact Kd.Q_nil _ _ _ _ _ | exact Kd.S_nil _ _ _ _ _⟩, ⟨by repeat (first | (with_reducible first | exact HB.out | apply below_alloc | apply pw_below_drewN | apply below_drew1) | exact HB.out)⟩⟩
  case round =>
    clear H'
    obtain ⟨x4_1, x11_1, rfl, HA, HK1, HO_4, HB⟩ := hrel
    cases gk with
    | zero => exact absurd HA.out (by simp [manifest_PutChunks.l0])
    | succ k1 =>
      have H := HA.out
      clear HA
      simp only [manifest_PutChunks.l0] at H
      by_cases c2 : x11_1 < (l0.length : Int)
      · rw [if_pos c2] at H
        have c2b0 : decide (x11_1 < (l0.length : Int)) = true := decide_eq_true c2
        clear c2
        by_cases c3 : 0 ≤ x11_1
        · rw [if_pos c3] at H
          have c3b0 : decide (0 ≤ x11_1) = true := decide_eq_true c3
          clear c3
          by_cases c4 : x11_1 < (l0.length : Int)
          · rw [if_pos c4] at H
            have c4b0 : decide (x11_1 < (l0.length : Int)) = true := decide_eq_true c4
            clear c4
            replace H := Option.bind_eq_some_iff.mp H
            obtain ⟨⟨t174, t175⟩, A50, H⟩ := H
            replace H : (if t175 = 0 then (if x4_1.length + t174.length < 140737488355328 then (manifest_PutChunks.l0 k1 (x4_1 ++ t174) l0 (l0.length : Int) (wrap64 (x11_1 + 1))) else (none)) else (some (([] : List Int), t175))) = some (r1, r2) := H
            have A5 := Aside0.mk A50
            clear A50
            by_cases c6 : t175 = 0
            · rw [if_pos c6] at H
              have c6b0 : (t175 == 0) = true := beq_iff_eq.mpr c6
              have c6b1 : (t175 != 0) = false := bne_eq_false_iff_eq.mpr c6
              clear c6
              by_cases c7 : x4_1.length + t174.length < 140737488355328
              · rw [if_pos c7] at H
                have LMc7 := Aside0.mk c7
                clear c7
                obtain ⟨y178, hy178⟩ : ∃ y_ : List Int, y_ = (x4_1 ++ t174) := ⟨_, rfl⟩
                replace H : (manifest_PutChunks.l0 k1 y178 l0 (l0.length : Int) (wrap64 (x11_1 + 1))) = some (r1, r2) := by first | (rw [hy178]; with_reducible exact H) | (have H2_ := (Option.bind_some _ _).symm.trans H; rw [hy178]; with_reducible exact H2_) | (have H2_ := (Option.bind_some _ _).symm.trans H; with_reducible exact H2_) | with_reducible exact H | (rw [hy178]; exact H) | exact H
                have Ny178 := Aside0.mk hy178
                clear hy178
                have H' := Aside0.mk H
                clear H
                have p173 : 0 ≤ (x11_1 : Int) := of_decide_eq_true (by first | (with_reducible assumption) | assumption)
                have q173 : x11_1 < (l0.length : Int) := of_decide_eq_true (by first | (with_reducible assumption) | assumption)
                obtain ⟨ad173, A173_0, c173_0, e173, hx173_0, hl173_0, hi173_0⟩ := at_L7 HR0.out x11_1 p173 q173
                cases e173
                replace hx173_0 := (HB.out.cell (World.block_lt_of_cell? w _ hx173_0)).trans hx173_0
                have HR173_0 := Aside0.mk hi173_0
                have HC173_0 := Aside0.mk hl173_0
                clear hi173_0 hl173_0
                replace p173 := eq_true p173
                replace q173 := eq_true q173
                go_wp2_with (first | ((with_reducible refine gate_callee (f := 35) rfl ?_); refine goesL_ (some 17) rfl rfl Tryz.func35 (by kernel_rfl) rfl #[.slice A173_0 (rd_L7 l0 x11_1).length c173_0] rfl (by (try simp only [List.map_toArray, List.map_cons, List.map_nil]); first | done | rfl | (simp only [List.length_drop, List.length_take]; rfl)) ?_; (with_reducible refine (frame_Put.calls k1 _ _ (rd_L7 l0 x11_1) t174 t175 _ ?side1 ?side2 A5.out).mono ?_); (case side1 => repeat (first | exact (Kd.C_below HR173_0.out HB.out) | (with_reducible refine Kd.C_alloc ?_ _) | (with_reducible refine Kd.C_drewN ?_ _) | (with_reducible refine Kd.C_drew ?_))); (case side2 => exact HC173_0.out); rintro e w8 ⟨v176, rfl, ho0, hb⟩; refine ⟨_, rfl, ?_⟩; have n0_ := Aside0.mk (Kd.R_elder' (by (with_reducible repeat (first | apply Kd.R_alloc | apply Kd.R_drewN | apply Kd.R_drew)); exact HO_4.out) (Kd.R_base ho0) hb); have n1_ := Aside0.mk (Kd.R_lower (Kd.R_new' ho0 (Kd.R_lt (by (with_reducible repeat (first | apply Kd.R_alloc | apply Kd.R_drewN | apply Kd.R_drew)); exact HO_4.out))) (below_size (by repeat (first | (with_reducible first | exact HB.out | apply below_alloc | apply pw_below_drewN | apply below_drew1) | exact HB.out)))); have n2_ := Aside0.mk (below_step (by repeat (first | (with_reducible first | exact HB.out | apply below_alloc | apply pw_below_drewN | apply below_drew1) | exact HB.out)) hb); clear HO_4; clear HB; have HO_4 := n0_; have HO177 := n1_; have HB := n2_; clear n0_ n1_ n2_; (try clear hb); (try clear hb2); (try clear hk); (try clear hi); (try clear ho0); obtain ⟨Ao10, co10, eo10⟩ := Kd.R_slice HO177.out; subst eo10) | ((with_reducible refine gate_builtin (b := .append) (xs := #[.tmp 23, .tmp 24]) rfl ?_); at_builtin; refine Kd.R_append_rows (Kd.int .u8) (w0 := w) w.heap.size rfl (.tmp 23) (.tmp 24) 30 5 (.int .u8 0) 1 rfl Tryz.underlying30 info5 rfl (by decide) (by omega) u4 x4_1 t174 _ _ _ (fun k_ => some k_ ≠ (.slice Ao10 t174.length co10 : Value).ownBlock) (fun _ => False) rfl rfl ?aO ?aR (fun _ _ h => h) (fun _ h => h.elim) ?aF ?aB ?aS ?aL ?_; (case aR => repeat (first | exact (Kd.R_reads' HO177.out).2.2 | (with_reducible refine Kd.C_alloc ?_ _) | (with_reducible refine Kd.C_drewN ?_ _) | (with_reducible refine Kd.C_drew ?_))); (case aB => exact (by repeat (first | (with_reducible first | exact HB.out | apply below_alloc | apply pw_below_drewN | apply below_drew1) | exact HB.out))); (case aF => exact (fun k_ hk => Kd.fresh' (Kd.R_lt (by (with_reducible repeat (first | apply Kd.R_alloc | apply Kd.R_drewN | apply Kd.R_drew)); exact HO177.out)) k_ hk)); (case aO => exact (by (with_reducible repeat (first | apply Kd.R_alloc | apply Kd.R_drewN | apply Kd.R_drew)); exact Kd.R_mono HO_4.out (fun _ hk => hk.2))); (case aS => exact (below_size (by repeat (first | (with_reducible first | exact HB.out | apply below_alloc | apply pw_below_drewN | apply below_drew1) | exact HB.out)))); (case aL => have := LMc7.out; omega); intro v179 w9 ho hb hg hat; rw [← Ny178.out] at ho; have n0_ := Aside0.mk (Kd.R_after (ok := (fun _ => True)) (by (with_reducible repeat (first | apply Kd.R_alloc | apply Kd.R_drewN | apply Kd.R_drew)); exact HO177.out) hg hat); have n1_ := Aside0.mk (hb); have n2_ := Aside0.mk (ho); clear HO177; clear HB; clear HO_4; have HO177 := n0_; have HB := n1_; have HO180 := n2_; clear n0_ n1_ n2_; clear ho hb hg hat))
                go_roundg k1
                case measure => have := HK1.out; omega
                case rel => exact ⟨(y178), (wrap64 (x11_1 + 1)), (by first | rfl | (simp; done) | (simp [*]; done)), H', ⟨by have := HK1.out; omega⟩, ⟨by (with_reducible repeat (first | apply Kd.R_alloc | apply Kd.R_drewN | apply Kd.R_drew)); exact Kd.R_mono HO180.out (fun _ hk => trivial)⟩, ⟨by repeat (first | (with_reducible first | exact HB.out | apply below_alloc | apply pw_below_drewN | apply below_drew1) | exact HB.out)⟩⟩
              · rw [if_neg c7] at H
                exact absurd H (by simp)
            · rw [if_neg c6] at H
              have c6b0 : (t175 == 0) = false := beq_eq_false_iff_ne.mpr c6
              have c6b1 : (t175 != 0) = true := bne_iff_ne.mpr c6
              simp only [Option.some.injEq, Prod.mk.injEq] at H
              obtain ⟨rfl, rfl⟩ := H
              have p173 : 0 ≤ (x11_1 : Int) := of_decide_eq_true (by first | (with_reducible assumption) | assumption)
              have q173 : x11_1 < (l0.length : Int) := of_decide_eq_true (by first | (with_reducible assumption) | assumption)
              obtain ⟨ad173, A173_0, c173_0, e173, hx173_0, hl173_0, hi173_0⟩ := at_L7 HR0.out x11_1 p173 q173
              cases e173
              replace hx173_0 := (HB.out.cell (World.block_lt_of_cell? w _ hx173_0)).trans hx173_0
              have HR173_0 := Aside0.mk hi173_0
              have HC173_0 := Aside0.mk hl173_0
              clear hi173_0 hl173_0
              replace p173 := eq_true p173
              replace q173 := eq_true q173
              go_wp2_with (first | ((with_reducible refine gate_callee (f := 35) rfl ?_); refine goesL_ (some 17) rfl rfl Tryz.func35 (by kernel_rfl) rfl #[.slice A173_0 (rd_L7 l0 x11_1).length c173_0] rfl (by (try simp only [List.map_toArray, List.map_cons, List.map_nil]); first | done | rfl | (simp only [List.length_drop, List.length_take]; rfl)) ?_; (with_reducible refine (frame_Put.calls k1 _ _ (rd_L7 l0 x11_1) t174 t175 _ ?side1 ?side2 A5.out).mono ?_); (case side1 => repeat (first | exact (Kd.C_below HR173_0.out HB.out) | (with_reducible refine Kd.C_alloc ?_ _) | (with_reducible refine Kd.C_drewN ?_ _) | (with_reducible refine Kd.C_drew ?_))); (case side2 => exact HC173_0.out); rintro e w11 ⟨v176, rfl, ho0, hb⟩; refine ⟨_, rfl, ?_⟩; have n0_ := Aside0.mk (Kd.R_elder' (by (with_reducible repeat (first | apply Kd.R_alloc | apply Kd.R_drewN | apply Kd.R_drew)); exact HO_4.out) (Kd.R_base ho0) hb); have n1_ := Aside0.mk (Kd.R_lower (Kd.R_new' ho0 (Kd.R_lt (by (with_reducible repeat (first | apply Kd.R_alloc | apply Kd.R_drewN | apply Kd.R_drew)); exact HO_4.out))) (below_size (by repeat (first | (with_reducible first | exact HB.out | apply below_alloc | apply pw_below_drewN | apply below_drew1) | exact HB.out)))); have n2_ := Aside0.mk (below_step (by repeat (first | (with_reducible first | exact HB.out | apply below_alloc | apply pw_below_drewN | apply below_drew1) | exact HB.out)) hb); clear HO_4; clear HB; have HO_4 := n0_; have HO177 := n1_; have HB := n2_; clear n0_ n1_ n2_; (try clear hb); (try clear hb2); (try clear hk); (try clear hi); (try clear ho0)))
              go_ret2
              exact ⟨_, by first | rfl | (simp [errW_none, errW_some] <;> rfl) | (simp [*, errW_none, errW_some] <;> rfl), by first | exact Kd.R_nil _ _ _ _ _ | exact Kd.N_nil _ _ _ _ _ | exact Kd.V_nil _ _ _ _ _ | exact Kd.Q_nil _ _ _ _ _ | exact Kd.S_nil _ _ _ _ _, by repeat (first | (with_reducible first | exact HB.out | apply below_alloc | apply pw_below_drewN | apply below_drew1) | exact HB.out)⟩
          · rw [if_neg c4] at H
            exact absurd H (by simp)
        · rw [if_neg c3] at H
          exact absurd H (by simp)
      · rw [if_neg c2] at H
        have c2b0 : decide (x11_1 < (l0.length : Int)) = false := decide_eq_false c2
        clear c2
        simp only [Option.some.injEq, Prod.mk.injEq] at H
        obtain ⟨rfl, rfl⟩ := H
        go_wp2
        go_ret2
        exact ⟨_, by first | rfl | (simp [errW_none, errW_some] <;> rfl) | (simp [*, errW_none, errW_some] <;> rfl), by (with_reducible repeat (first | apply Kd.R_alloc | apply Kd.R_drewN | apply Kd.R_drew)); exact HO_4.out, by repeat (first | (with_reducible first | exact HB.out | apply below_alloc | apply pw_below_drewN | apply below_drew1) | exact HB.out)⟩

end Go.Proofs.YtjmhiklmlgbifaaGreatDoor.PMan
end
section
-- Printed for this claim by a program of this session's own (it runs the kit's print another way): Lean checks it.
namespace Go.Proofs.YtjmhiklmlgbifaaGreatDoor.PMan
open Go.RowKit Go.Proofs.YtjmhiklmlgbifaaGreatDoorW.PrintWords Go.Proofs.YtjmhiklmlgbifaaGreatDoorW.PrintLast Go.Proofs.YtjmhiklmlgbifaaGreatDoorW.PrintMore
attribute [local go_sem] max2_int min2_int max_two min_two max_three min_three max_four min_four   -- for this text's walks alone
set_option linter.unusedVariables false
set_option linter.unusedSimpArgs false

/-! ### frame_All: function 67 -/
def frame_All.l0 : Nat → List Int → List (List Int) → Int → Option ((List (List Int)) × Int)
  | 0, _, _, _ => none
  | k + 1, x0, x2, x3 => if 0 ≤ x3 then (if x3 ≤ (x0.length : Int) then ((frame_Get.f (x0.drop (x3 : Int).toNat)).bind fun bt182 => (if bt182.2.2 = 0 then (if x2.length < 5864062014805 then (frame_All.l0 k x0 (x2 ++ [bt182.1]) (wrap64 (x3 + bt182.2.1))) else (none)) else (some (x2, x3)))) else (none)) else (none)
def frame_All.f (k : Nat) (l0 : List Int) : Option ((List (List Int)) × Int) := frame_All.l0 k l0 ([] : List (List Int)) 0
theorem frame_All.mono_l : ∀ k, (∀ y0 y1 y2, LeO (frame_All.l0 k y0 y1 y2) (frame_All.l0 (k + 1) y0 y1 y2))
  | 0 => fun _ _ _ r h => by simp [frame_All.l0] at h
  | k + 1 => by
    have ih0 := frame_All.mono_l k
    · intro y0 y1 y2
      unfold frame_All.l0
      repeat' first
      | (with_reducible exact ih0 _ _ _)
      | (with_reducible exact LeO.refl _)
      | (with_reducible exact LeO.none _)
      | (with_reducible refine LeO.ite ?_ ?_)
      | (with_reducible refine LeO.bind ?_ (fun _ => ?_))
      | exact ih0 _ _ _
      | exact LeO.none _
      | refine LeO.ite ?_ ?_
      | refine LeO.bind ?_ (fun _ => ?_)
theorem frame_All.mono : ∀ a0 k, LeO (frame_All.f k a0) (frame_All.f (k + 1) a0) := by
  intro a0 k
  have ih0 := frame_All.mono_l k
  unfold frame_All.f
  repeat' first
      | (with_reducible exact ih0 _ _ _)
      | (with_reducible exact LeO.refl _)
      | (with_reducible exact LeO.none _)
      | (with_reducible refine LeO.ite ?_ ?_)
      | (with_reducible refine LeO.bind ?_ (fun _ => ?_))
      | exact ih0 _ _ _
      | exact LeO.none _
      | refine LeO.ite ?_ ?_
      | refine LeO.bind ?_ (fun _ => ?_)
set_option maxHeartbeats 8000000 in
set_option maxRecDepth 100000 in
theorem frame_All.calls (k : Nat) (A0 : Option Addr) (c0 : Nat) (l0 : List Int) (r1 : List (List Int)) (r2 : Int) (w : World) (hr0 : Kd.C (Kd.int .u8) w A0 l0.length l0) (hc0 : l0.length ≤ c0) (hG : ErrT w) (h : frame_All.f k l0 = some (r1, r2)) :
    Calls Tryz.prog 67 #[.slice A0 l0.length c0] w fun e w' => ∃ v0_ : Value, e = .returned (.tuple #[v0_, .int .i64 r2]) ∧ Kd.S (Kd.slice 5 (Kd.int .u8)) 30 w' w.heap.size (fun _ => True) v0_ r1 ∧ Below w.heap.size w w' := by
  have HR0 := Aside0.mk hr0
  have HC0 := Aside0.mk hc0
  clear hr0 hc0
  have HB := Aside0.mk (Below.refl w.heap.size w)
  have HG := Aside0.mk hG
  clear hG
  have H : (frame_All.l0 k l0 ([] : List (List Int)) 0) = some (r1, r2) := h
  clear h
  have H' := Aside0.mk H
  clear H
  go_enter Tryz.func67, Tryz.ntmps67
  go_wp2
  go_loopg [2, 3] k (fun kq v2 v3 w' => ∃ (x2_1 : List (List Int)) (x3_1 : Int), v3 = .int .i64 x3_1 ∧ Aside0 (frame_All.l0 kq l0 x2_1 x3_1 = some (r1, r2)) ∧ Aside0 (kq ≤ k) ∧ Aside0 (Kd.S (Kd.slice 5 (Kd.int .u8)) 30 w' w.heap.size (fun _ => True) v2 x2_1) ∧ Aside0 (Below w.heap.size w w'))
  case atStart => exact ⟨(([] : List (List Int))), (0), (by first | rfl | (simp; done) | (simp [*]; done)), H', ⟨Nat.le_refl _⟩, ⟨by first | exact Kd.S_nil _ _ _ _ _ | exact Kd.N_nil _ _ _ _ _ | exact Kd.V_nil _ _ _ _ _ | exact Kd.Q_nil _ _ _ _ _ | exact Kd.R_nil _ _ _ _ _⟩, ⟨by repeat (first | (with_reducible first | exact HB.out | apply below_alloc | apply pw_below_drewN | apply below_drew1) | exact HB.out)⟩⟩
  case round =>
    clear H'
    obtain ⟨x2_1, x3_1, rfl, HA, HK1, HO_2, HB⟩ := hrel
    cases gk with
    | zero => exact absurd HA.out (by simp [frame_All.l0])
    | succ k1 =>
      have H := HA.out
      clear HA
      simp only [frame_All.l0] at H
      by_cases c2 : 0 ≤ x3_1
      · rw [if_pos c2] at H
        have c2b0 := eq_true c2
        have c2b1 : decide (0 ≤ x3_1) = true := decide_eq_true c2
        clear c2
        by_cases c3 : x3_1 ≤ (l0.length : Int)
        · rw [if_pos c3] at H
          have c3b0 := eq_true c3
          have c3b1 : decide (x3_1 ≤ (l0.length : Int)) = true := decide_eq_true c3
          clear c3
          replace H := Option.bind_eq_some_iff.mp H
          obtain ⟨⟨t182, t183, t184⟩, A40, H⟩ := H
          replace H : (if t184 = 0 then (if x2_1.length < 5864062014805 then (frame_All.l0 k1 l0 (x2_1 ++ [t182]) (wrap64 (x3_1 + t183))) else (none)) else (some (x2_1, x3_1))) = some (r1, r2) := H
          have A4 := Aside0.mk A40
          clear A40
          by_cases c5 : t184 = 0
          · rw [if_pos c5] at H
            have c5b0 : (t184 == 0) = true := beq_iff_eq.mpr c5
            have c5b1 : (t184 != 0) = false := bne_eq_false_iff_eq.mpr c5
            clear c5
            by_cases c6 : x2_1.length < 5864062014805
            · rw [if_pos c6] at H
              have LMc6 := Aside0.mk c6
              clear c6
              obtain ⟨y187, hy187⟩ : ∃ y_ : List (List Int), y_ = (x2_1 ++ [t182]) := ⟨_, rfl⟩
              replace H : (frame_All.l0 k1 l0 y187 (wrap64 (x3_1 + t183))) = some (r1, r2) := by first | (rw [hy187]; with_reducible exact H) | (have H2_ := (Option.bind_some _ _).symm.trans H; rw [hy187]; with_reducible exact H2_) | (have H2_ := (Option.bind_some _ _).symm.trans H; with_reducible exact H2_) | with_reducible exact H | (rw [hy187]; exact H) | exact H
              have Ny187 := Aside0.mk hy187
              clear hy187
              have H' := Aside0.mk H
              clear H
              obtain ⟨i07, hi07, _, hsz7, _⟩ := info_parts info5
              obtain ⟨A7, hcut7, hA7, hC7⟩ := print_drop_of (P := Tryz.prog) (Value.int .u8) 0 30 5 .i64 Tryz.underlying30 hi07 hsz7 A0 c0 l0 x3_1 (of_decide_eq_true (by first | (with_reducible assumption) | assumption)) (of_decide_eq_true (by first | (with_reducible assumption) | assumption)) HC0.out
              have HR181 := Aside0.mk (Kd.C_of_reads (h1 := fun _ => rfl) (hA7 _ (Kd.reads_of_C HR0.out)))
              have HC181 := Aside0.mk hC7
              clear hA7 hC7 hi07 hsz7
              go_wp2_with (first | ((with_reducible refine gate_callee (f := 53) rfl ?_); refine goesL_ (some 11) rfl rfl Tryz.func53 (by kernel_rfl) rfl #[.slice A7 (l0.drop (x3_1 : Int).toNat).length (c0 - x3_1.toNat)] rfl (by (try simp only [List.map_toArray, List.map_cons, List.map_nil]); first | done | (rw [show (l0.drop (x3_1 : Int).toNat).length = (l0.length - x3_1.toNat) from List.length_drop] <;> rfl) | rfl | (simp only [List.length_drop, List.length_take]; rfl)) ?_; (with_reducible refine (frame_Get.calls _ _ (l0.drop (x3_1 : Int).toNat) t182 t183 t184 _ ?side1 ?side2 ?side3 A4.out).mono ?_); (case side1 => repeat (first | exact (Kd.C_below HR181.out HB.out) | (with_reducible refine Kd.C_alloc ?_ _) | (with_reducible refine Kd.C_drewN ?_ _) | (with_reducible refine Kd.C_drew ?_))); (case side2 => exact HC181.out); (case side3 => exact ErrT.of_below HG.out (by repeat (first | (with_reducible first | exact HB.out | apply below_alloc | apply pw_below_drewN | apply below_drew1) | exact HB.out))); rintro e w8 ⟨v185, rfl, ho0, hb⟩; refine ⟨_, rfl, ?_⟩; have n0_ := Aside0.mk (Kd.S_elder' (by (with_reducible repeat (first | apply Kd.S_alloc | apply Kd.S_drewN | apply Kd.S_drew)); exact HO_2.out) (Kd.R_base ho0) hb); have n1_ := Aside0.mk (Kd.R_lower ho0 (below_size (by repeat (first | (with_reducible first | exact HB.out | apply below_alloc | apply pw_below_drewN | apply below_drew1) | exact HB.out)))); have n2_ := Aside0.mk (below_step (by repeat (first | (with_reducible first | exact HB.out | apply below_alloc | apply pw_below_drewN | apply below_drew1) | exact HB.out)) hb); clear HO_2; clear HB; have HO_2 := n0_; have HO186 := n1_; have HB := n2_; clear n0_ n1_ n2_; (try clear hb); (try clear hb2); (try clear hk); (try clear hi); (try clear ho0); obtain ⟨Ao10, co10, eo10⟩ := Kd.R_slice HO186.out; subst eo10) | ((with_reducible refine gate_builtin (b := .append) (xs := #[.tmp 19, .tmp 21]) rfl ?_); at_builtin; refine Kd.S_append (Kd.slice 5 (Kd.int .u8)) (w0 := w) w.heap.size rfl (.tmp 19) (.tmp 21) 50 30 (.slice none 0 0) 24 rfl Tryz.underlying50 info30 rfl (by decide) (by omega) u2 x2_1 t182 [.slice Ao10 t182.length co10] (fun _ => True) (fun k_ => some k_ = (.slice Ao10 t182.length co10 : Value).ownBlock) rfl rfl ?aP (fun k_ hk_ => ((Kd.R_mono (ok' := fun k_ => ((fun _ => True)) k_ ∧ some k_ ≠ (u2 : Value).ownBlock) (Kd.R_apart' (HO186.out) (Kd.S_typed HO_2.out) (by decide)) (fun k_ hk => ⟨trivial, hk.2⟩))).1 k_ hk_.symm) ?aF ?aO ?aB ?aS ?aL ?_; (case aP => exact Kd.M_row (Kd.R_mono (Kd.R_tight rfl (Kd.R_mono (ok' := fun k_ => ((fun _ => True)) k_ ∧ some k_ ≠ (u2 : Value).ownBlock) (Kd.R_apart' (HO186.out) (Kd.S_typed HO_2.out) (by decide)) (fun k_ hk => ⟨trivial, hk.2⟩))) (fun _ h_ => h_))); (case aB => exact (by repeat (first | (with_reducible first | exact HB.out | apply below_alloc | apply pw_below_drewN | apply below_drew1) | exact HB.out))); (case aF => exact (fun _ _ => trivial)); (case aO => exact (by (with_reducible repeat (first | apply Kd.S_alloc | apply Kd.S_drewN | apply Kd.S_drew)); exact Kd.S_mono HO_2.out (fun k_ hk => ⟨trivial, fun e_ => hk.2 e_⟩))); (case aS => exact (below_size (by repeat (first | (with_reducible first | exact HB.out | apply below_alloc | apply pw_below_drewN | apply below_drew1) | exact HB.out)))); (case aL => have := LMc6.out; omega); intro v188 w9 ho hb hg hat; rw [← Ny187.out] at ho; have n0_ := Aside0.mk (hb); have n1_ := Aside0.mk (ho); clear HB; clear HO_2; clear HO186; have HB := n0_; have HO189 := n1_; clear n0_ n1_; clear ho hb hg hat))
              go_roundg k1
              case measure => have := HK1.out; omega
              case rel => exact ⟨(y187), (wrap64 (x3_1 + t183)), (by first | rfl | (simp; done) | (simp [*]; done)), H', ⟨by have := HK1.out; omega⟩, ⟨by (with_reducible repeat (first | apply Kd.S_alloc | apply Kd.S_drewN | apply Kd.S_drew)); exact HO189.out⟩, ⟨by repeat (first | (with_reducible first | exact HB.out | apply below_alloc | apply pw_below_drewN | apply below_drew1) | exact HB.out)⟩⟩
            · rw [if_neg c6] at H
              exact absurd H (by simp)
          · rw [if_neg c5] at H
            have c5b0 : (t184 == 0) = false := beq_eq_false_iff_ne.mpr c5
            have c5b1 : (t184 != 0) = true := bne_iff_ne.mpr c5
            simp only [Option.some.injEq, Prod.mk.injEq] at H
            obtain ⟨rfl, rfl⟩ := H
            obtain ⟨i011, hi011, _, hsz11, _⟩ := info_parts info5
            obtain ⟨A11, hcut11, hA11, hC11⟩ := print_drop_of (P := Tryz.prog) (Value.int .u8) 0 30 5 .i64 Tryz.underlying30 hi011 hsz11 A0 c0 l0 x3_1 (of_decide_eq_true (by first | (with_reducible assumption) | assumption)) (of_decide_eq_true (by first | (with_reducible assumption) | assumption)) HC0.out
            have HR181 := Aside0.mk (Kd.C_of_reads (h1 := fun _ => rfl) (hA11 _ (Kd.reads_of_C HR0.out)))
            have HC181 := Aside0.mk hC11
            clear hA11 hC11 hi011 hsz11
            go_wp2_with (first | ((with_reducible refine gate_callee (f := 53) rfl ?_); refine goesL_ (some 11) rfl rfl Tryz.func53 (by kernel_rfl) rfl #[.slice A11 (l0.drop (x3_1 : Int).toNat).length (c0 - x3_1.toNat)] rfl (by (try simp only [List.map_toArray, List.map_cons, List.map_nil]); first | done | (rw [show (l0.drop (x3_1 : Int).toNat).length = (l0.length - x3_1.toNat) from List.length_drop] <;> rfl) | rfl | (simp only [List.length_drop, List.length_take]; rfl)) ?_; (with_reducible refine (frame_Get.calls _ _ (l0.drop (x3_1 : Int).toNat) t182 t183 t184 _ ?side1 ?side2 ?side3 A4.out).mono ?_); (case side1 => repeat (first | exact (Kd.C_below HR181.out HB.out) | (with_reducible refine Kd.C_alloc ?_ _) | (with_reducible refine Kd.C_drewN ?_ _) | (with_reducible refine Kd.C_drew ?_))); (case side2 => exact HC181.out); (case side3 => exact ErrT.of_below HG.out (by repeat (first | (with_reducible first | exact HB.out | apply below_alloc | apply pw_below_drewN | apply below_drew1) | exact HB.out))); rintro e w12 ⟨v185, rfl, ho0, hb⟩; refine ⟨_, rfl, ?_⟩; have n0_ := Aside0.mk (Kd.S_elder' (by (with_reducible repeat (first | apply Kd.S_alloc | apply Kd.S_drewN | apply Kd.S_drew)); exact HO_2.out) (Kd.R_base ho0) hb); have n1_ := Aside0.mk (Kd.R_lower ho0 (below_size (by repeat (first | (with_reducible first | exact HB.out | apply below_alloc | apply pw_below_drewN | apply below_drew1) | exact HB.out)))); have n2_ := Aside0.mk (below_step (by repeat (first | (with_reducible first | exact HB.out | apply below_alloc | apply pw_below_drewN | apply below_drew1) | exact HB.out)) hb); clear HO_2; clear HB; have HO_2 := n0_; have HO186 := n1_; have HB := n2_; clear n0_ n1_ n2_; (try clear hb); (try clear hb2); (try clear hk); (try clear hi); (try clear ho0)))
            go_ret2
            exact ⟨_, by first | rfl | (simp [errW_none, errW_some] <;> rfl) | (simp [*, errW_none, errW_some] <;> rfl), by (with_reducible repeat (first | apply Kd.S_alloc | apply Kd.S_drewN | apply Kd.S_drew)); exact Kd.S_mono HO_2.out (fun _ hk => trivial), by repeat (first | (with_reducible first | exact HB.out | apply below_alloc | apply pw_below_drewN | apply below_drew1) | exact HB.out)⟩
        · rw [if_neg c3] at H
          exact absurd H (by simp)
      · rw [if_neg c2] at H
        exact absurd H (by simp)

/-! ### manifest_TakeChunks: function 24 -/
def manifest_TakeChunks.f (k : Nat) (l0 : List Int) (a1 : Int) : Option ((List (List Int)) × Int) := (frame_All.f k l0).bind fun bt190 => (if (bt190.1.length : Int) = a1 then (if bt190.2 = (l0.length : Int) then (some (bt190.1, 0)) else (some (([] : List (List Int)), 4))) else (some (([] : List (List Int)), 4)))
theorem manifest_TakeChunks.mono : ∀ a0 a1 k, LeO (manifest_TakeChunks.f k a0 a1) (manifest_TakeChunks.f (k + 1) a0 a1) := by
  intro a0 a1 k
  unfold manifest_TakeChunks.f
  repeat' first
      | (with_reducible exact frame_All.mono _ _)
      | (with_reducible exact LeO.refl _)
      | (with_reducible exact LeO.none _)
      | (with_reducible refine LeO.ite ?_ ?_)
      | (with_reducible refine LeO.bind ?_ (fun _ => ?_))
      | exact frame_All.mono _ _
      | exact LeO.none _
      | refine LeO.ite ?_ ?_
      | refine LeO.bind ?_ (fun _ => ?_)
set_option maxHeartbeats 8000000 in
set_option maxRecDepth 100000 in
theorem manifest_TakeChunks.calls (k : Nat) (A0 : Option Addr) (c0 : Nat) (l0 : List Int) (a1 : Int) (r1 : List (List Int)) (r2 : Int) (w : World) (hr0 : Kd.C (Kd.int .u8) w A0 l0.length l0) (hc0 : l0.length ≤ c0) (hG : ErrT w) (h : manifest_TakeChunks.f k l0 a1 = some (r1, r2)) :
    Calls Tryz.prog 24 #[.slice A0 l0.length c0, .int .i64 a1] w fun e w' => ∃ v0_ : Value, e = .returned (.tuple #[v0_, .int .i64 r2]) ∧ Kd.S (Kd.slice 5 (Kd.int .u8)) 30 w' w.heap.size (fun _ => True) v0_ r1 ∧ Below w.heap.size w w' := by
  have HR0 := Aside0.mk hr0
  have HC0 := Aside0.mk hc0
  clear hr0 hc0
  have HB := Aside0.mk (Below.refl w.heap.size w)
  have HG := Aside0.mk hG
  clear hG
  have H : ((frame_All.f k l0).bind fun bt190 => (if (bt190.1.length : Int) = a1 then (if bt190.2 = (l0.length : Int) then (some (bt190.1, 0)) else (some (([] : List (List Int)), 4))) else (some (([] : List (List Int)), 4)))) = some (r1, r2) := h
  clear h
  replace H := Option.bind_eq_some_iff.mp H
  obtain ⟨⟨t190, t191⟩, A30, H⟩ := H
  replace H : (if (t190.length : Int) = a1 then (if t191 = (l0.length : Int) then (some (t190, 0)) else (some (([] : List (List Int)), 4))) else (some (([] : List (List Int)), 4))) = some (r1, r2) := H
  have A3 := Aside0.mk A30
  clear A30
  by_cases c4 : (t190.length : Int) = a1
  · rw [if_pos c4] at H
    have c4b0 : ((t190.length : Int) == a1) = true := beq_iff_eq.mpr c4
    have c4b1 : ((t190.length : Int) != a1) = false := bne_eq_false_iff_eq.mpr c4
    clear c4
    by_cases c5 : t191 = (l0.length : Int)
    · rw [if_pos c5] at H
      have c5b0 : (t191 == (l0.length : Int)) = true := beq_iff_eq.mpr c5
      have c5b1 : (t191 != (l0.length : Int)) = false := bne_eq_false_iff_eq.mpr c5
      clear c5
      simp only [Option.some.injEq, Prod.mk.injEq] at H
      obtain ⟨rfl, rfl⟩ := H
      go_enter Tryz.func24, Tryz.ntmps24
      go_wp2_with (first | ((with_reducible refine gate_callee (f := 67) rfl ?_); refine goesL_ (some 10) rfl rfl Tryz.func67 (by kernel_rfl) rfl #[.slice A0 l0.length c0] rfl (by (try simp only [List.map_toArray, List.map_cons, List.map_nil]); first | done | rfl | (simp only [List.length_drop, List.length_take]; rfl)) ?_; (with_reducible refine (frame_All.calls k _ _ l0 t190 t191 _ ?side1 ?side2 ?side3 A3.out).mono ?_); (case side1 => repeat (first | exact HR0.out | (with_reducible refine Kd.C_alloc ?_ _) | (with_reducible refine Kd.C_drewN ?_ _) | (with_reducible refine Kd.C_drew ?_))); (case side2 => exact HC0.out); (case side3 => exact ErrT.of_below HG.out (by repeat (first | (with_reducible first | exact HB.out | apply below_alloc | apply pw_below_drewN | apply below_drew1) | exact HB.out))); rintro e w6 ⟨v192, rfl, ho0, hb⟩; refine ⟨_, rfl, ?_⟩; have n0_ := Aside0.mk (Kd.S_lower ho0 (below_size (by repeat (first | (with_reducible first | exact HB.out | apply below_alloc | apply pw_below_drewN | apply below_drew1) | exact HB.out)))); have n1_ := Aside0.mk (below_step (by repeat (first | (with_reducible first | exact HB.out | apply below_alloc | apply pw_below_drewN | apply below_drew1) | exact HB.out)) hb); clear HB; have HO193 := n0_; have HB := n1_; clear n0_ n1_; (try clear hb); (try clear hb2); (try clear hk); (try clear hi); (try clear ho0); obtain ⟨Ao7, co7, eo7⟩ := Kd.S_slice HO193.out; subst eo7))
      go_ret2
      exact ⟨_, by first | rfl | (simp [errW_none, errW_some] <;> rfl) | (simp [*, errW_none, errW_some] <;> rfl), by (with_reducible repeat (first | apply Kd.S_alloc | apply Kd.S_drewN | apply Kd.S_drew)); exact HO193.out, by repeat (first | (with_reducible first | exact HB.out | apply below_alloc | apply pw_below_drewN | apply below_drew1) | exact HB.out)⟩
    · rw [if_neg c5] at H
      have c5b0 : (t191 == (l0.length : Int)) = false := beq_eq_false_iff_ne.mpr c5
      have c5b1 : (t191 != (l0.length : Int)) = true := bne_iff_ne.mpr c5
      simp only [Option.some.injEq, Prod.mk.injEq] at H
      obtain ⟨rfl, rfl⟩ := H
      go_enter Tryz.func24, Tryz.ntmps24
      go_wp2_with (first | ((with_reducible refine gate_callee (f := 67) rfl ?_); refine goesL_ (some 10) rfl rfl Tryz.func67 (by kernel_rfl) rfl #[.slice A0 l0.length c0] rfl (by (try simp only [List.map_toArray, List.map_cons, List.map_nil]); first | done | rfl | (simp only [List.length_drop, List.length_take]; rfl)) ?_; (with_reducible refine (frame_All.calls k _ _ l0 t190 t191 _ ?side1 ?side2 ?side3 A3.out).mono ?_); (case side1 => repeat (first | exact HR0.out | (with_reducible refine Kd.C_alloc ?_ _) | (with_reducible refine Kd.C_drewN ?_ _) | (with_reducible refine Kd.C_drew ?_))); (case side2 => exact HC0.out); (case side3 => exact ErrT.of_below HG.out (by repeat (first | (with_reducible first | exact HB.out | apply below_alloc | apply pw_below_drewN | apply below_drew1) | exact HB.out))); rintro e w8 ⟨v192, rfl, ho0, hb⟩; refine ⟨_, rfl, ?_⟩; have n0_ := Aside0.mk (Kd.S_lower ho0 (below_size (by repeat (first | (with_reducible first | exact HB.out | apply below_alloc | apply pw_below_drewN | apply below_drew1) | exact HB.out)))); have n1_ := Aside0.mk (below_step (by repeat (first | (with_reducible first | exact HB.out | apply below_alloc | apply pw_below_drewN | apply below_drew1) | exact HB.out)) hb); clear HB; have HO193 := n0_; have HB := n1_; clear n0_ n1_; (try clear hb); (try clear hb2); (try clear hk); (try clear hi); (try clear ho0); obtain ⟨Ao9, co9, eo9⟩ := Kd.S_slice HO193.out; subst eo9))
      go_ret2
      exact ⟨_, by first | rfl | (simp [errW_none, errW_some] <;> rfl) | (simp [*, errW_none, errW_some] <;> rfl), by first | exact Kd.S_nil _ _ _ _ _ | exact Kd.N_nil _ _ _ _ _ | exact Kd.V_nil _ _ _ _ _ | exact Kd.Q_nil _ _ _ _ _ | exact Kd.R_nil _ _ _ _ _, by repeat (first | (with_reducible first | exact HB.out | apply below_alloc | apply pw_below_drewN | apply below_drew1) | exact HB.out)⟩
  · rw [if_neg c4] at H
    have c4b0 : ((t190.length : Int) == a1) = false := beq_eq_false_iff_ne.mpr c4
    have c4b1 : ((t190.length : Int) != a1) = true := bne_iff_ne.mpr c4
    simp only [Option.some.injEq, Prod.mk.injEq] at H
    obtain ⟨rfl, rfl⟩ := H
    go_enter Tryz.func24, Tryz.ntmps24
    go_wp2_with (first | ((with_reducible refine gate_callee (f := 67) rfl ?_); refine goesL_ (some 10) rfl rfl Tryz.func67 (by kernel_rfl) rfl #[.slice A0 l0.length c0] rfl (by (try simp only [List.map_toArray, List.map_cons, List.map_nil]); first | done | rfl | (simp only [List.length_drop, List.length_take]; rfl)) ?_; (with_reducible refine (frame_All.calls k _ _ l0 t190 t191 _ ?side1 ?side2 ?side3 A3.out).mono ?_); (case side1 => repeat (first | exact HR0.out | (with_reducible refine Kd.C_alloc ?_ _) | (with_reducible refine Kd.C_drewN ?_ _) | (with_reducible refine Kd.C_drew ?_))); (case side2 => exact HC0.out); (case side3 => exact ErrT.of_below HG.out (by repeat (first | (with_reducible first | exact HB.out | apply below_alloc | apply pw_below_drewN | apply below_drew1) | exact HB.out))); rintro e w10 ⟨v192, rfl, ho0, hb⟩; refine ⟨_, rfl, ?_⟩; have n0_ := Aside0.mk (Kd.S_lower ho0 (below_size (by repeat (first | (with_reducible first | exact HB.out | apply below_alloc | apply pw_below_drewN | apply below_drew1) | exact HB.out)))); have n1_ := Aside0.mk (below_step (by repeat (first | (with_reducible first | exact HB.out | apply below_alloc | apply pw_below_drewN | apply below_drew1) | exact HB.out)) hb); clear HB; have HO193 := n0_; have HB := n1_; clear n0_ n1_; (try clear hb); (try clear hb2); (try clear hk); (try clear hi); (try clear ho0); obtain ⟨Ao11, co11, eo11⟩ := Kd.S_slice HO193.out; subst eo11))
    go_ret2
    exact ⟨_, by first | rfl | (simp [errW_none, errW_some] <;> rfl) | (simp [*, errW_none, errW_some] <;> rfl), by first | exact Kd.S_nil _ _ _ _ _ | exact Kd.N_nil _ _ _ _ _ | exact Kd.V_nil _ _ _ _ _ | exact Kd.Q_nil _ _ _ _ _ | exact Kd.R_nil _ _ _ _ _, by repeat (first | (with_reducible first | exact HB.out | apply below_alloc | apply pw_below_drewN | apply below_drew1) | exact HB.out)⟩

end Go.Proofs.YtjmhiklmlgbifaaGreatDoor.PMan
end
section
-- Printed for this claim by a program of this session's own (it runs the kit's print another way): Lean checks it.
namespace Go.Proofs.YtjmhiklmlgbifaaGreatDoor.PMan
open Go.RowKit Go.Proofs.YtjmhiklmlgbifaaGreatDoorW.PrintWords Go.Proofs.YtjmhiklmlgbifaaGreatDoorW.PrintLast Go.Proofs.YtjmhiklmlgbifaaGreatDoorW.PrintMore
attribute [local go_sem] max2_int min2_int max_two min_two max_three min_three max_four min_four   -- for this text's walks alone
set_option linter.unusedVariables false
set_option linter.unusedSimpArgs false

/-! ### estreatref04_SameAll: function 25 -/
def estreatref04_SameAll.l0 : Nat → List (List Int) → List (List Int) → Int → Option (Bool)
  | 0, _, _, _ => none
  | k + 1, x0, x1, x5 => if x5 < (x0.length : Int) then (if 0 ≤ x5 then (if x5 < (x1.length : Int) then ((estreatref01_Same.f k (rd_L7 x0 x5) (rd_L7 x1 x5)).bind fun t196 => (if t196 = true then (estreatref04_SameAll.l0 k x0 x1 (wrap64 (x5 + 1))) else (some false))) else (none)) else (none)) else (some true)
def estreatref04_SameAll.f (k : Nat) (l0 : List (List Int)) (l1 : List (List Int)) : Option (Bool) := if (l0.length : Int) = (l1.length : Int) then (estreatref04_SameAll.l0 k l0 l1 0) else (some false)
theorem estreatref04_SameAll.mono_l : ∀ k, (∀ y0 y1 y2, LeO (estreatref04_SameAll.l0 k y0 y1 y2) (estreatref04_SameAll.l0 (k + 1) y0 y1 y2))
  | 0 => fun _ _ _ r h => by simp [estreatref04_SameAll.l0] at h
  | k + 1 => by
    have ih0 := estreatref04_SameAll.mono_l k
    · intro y0 y1 y2
      unfold estreatref04_SameAll.l0
      repeat' first
      | (with_reducible exact ih0 _ _ _)
      | (with_reducible exact estreatref01_Same.mono _ _ _)
      | (with_reducible exact LeO.refl _)
      | (with_reducible exact LeO.none _)
      | (with_reducible refine LeO.ite ?_ ?_)
      | (with_reducible refine LeO.bind ?_ (fun _ => ?_))
      | exact ih0 _ _ _
      | exact estreatref01_Same.mono _ _ _
      | exact LeO.none _
      | refine LeO.ite ?_ ?_
      | refine LeO.bind ?_ (fun _ => ?_)
theorem estreatref04_SameAll.mono : ∀ a0 a1 k, LeO (estreatref04_SameAll.f k a0 a1) (estreatref04_SameAll.f (k + 1) a0 a1) := by
  intro a0 a1 k
  have ih0 := estreatref04_SameAll.mono_l k
  unfold estreatref04_SameAll.f
  repeat' first
      | (with_reducible exact ih0 _ _ _)
      | (with_reducible exact estreatref01_Same.mono _ _ _)
      | (with_reducible exact LeO.refl _)
      | (with_reducible exact LeO.none _)
      | (with_reducible refine LeO.ite ?_ ?_)
      | (with_reducible refine LeO.bind ?_ (fun _ => ?_))
      | exact ih0 _ _ _
      | exact estreatref01_Same.mono _ _ _
      | exact LeO.none _
      | refine LeO.ite ?_ ?_
      | refine LeO.bind ?_ (fun _ => ?_)
set_option maxHeartbeats 8000000 in
set_option maxRecDepth 100000 in
theorem estreatref04_SameAll.calls (k : Nat) (A0 : Option Addr) (c0 : Nat) (l0 : List (List Int)) (A1 : Option Addr) (c1 : Nat) (l1 : List (List Int)) (r : Bool) (w : World) (hr0 : Kd.C (Kd.slice 5 (Kd.int .u8)) w A0 l0.length l0) (hc0 : l0.length ≤ c0) (hr1 : Kd.C (Kd.slice 5 (Kd.int .u8)) w A1 l1.length l1) (hc1 : l1.length ≤ c1) (h : estreatref04_SameAll.f k l0 l1 = some r) :
    Calls Tryz.prog 25 #[.slice A0 l0.length c0, .slice A1 l1.length c1] w fun e w' => e = .returned (.bool r) ∧ Drawn0 w w' := by
  have HR0 := Aside0.mk hr0
  have HC0 := Aside0.mk hc0
  clear hr0 hc0
  have HR1 := Aside0.mk hr1
  have HC1 := Aside0.mk hc1
  clear hr1 hc1
  have H : (if (l0.length : Int) = (l1.length : Int) then (estreatref04_SameAll.l0 k l0 l1 0) else (some false)) = some r := h
  clear h
  by_cases c3 : (l0.length : Int) = (l1.length : Int)
  · rw [if_pos c3] at H
    have c3b0 : ((l0.length : Int) == (l1.length : Int)) = true := beq_iff_eq.mpr c3
    have c3b1 : ((l0.length : Int) != (l1.length : Int)) = false := bne_eq_false_iff_eq.mpr c3
    have c3b2 : (l0.length == l1.length) = true := by first | simpa using c3 | (simp at c3 ⊢; omega)
    clear c3
    have H' := Aside0.mk H
    clear H
    go_enter Tryz.func25, Tryz.ntmps25
    go_wp2
    repeat (go_quiet (fail); try go_wp2)
    go_loopg [5] k (fun kq v5 w' => ∃ (x5_1 : Int), v5 = .int .i64 x5_1 ∧ Aside0 (estreatref04_SameAll.l0 kq l0 l1 x5_1 = some r) ∧ Aside0 (kq ≤ k) ∧ Drawn0 w w')
    case atStart => exact ⟨(0), (by first | rfl | (simp; done) | (simp [*]; done)), H', ⟨Nat.le_refl _⟩, by repeat (first | exact Drawn0.refl _ | apply Drawn0.step)⟩
    case round =>
      clear H'
      try clear c1
      try clear c2
      try clear p2
      try clear c3
      try clear c3b0
      try clear c3b1
      try clear c3b2
      obtain ⟨x5_1, rfl, HA, HK1, ⟨m1, rfl⟩⟩ := hrel
      cases gk with
      | zero => exact absurd HA.out (by simp [estreatref04_SameAll.l0])
      | succ k1 =>
        have H := HA.out
        clear HA
        simp only [estreatref04_SameAll.l0] at H
        by_cases c4 : x5_1 < (l0.length : Int)
        · rw [if_pos c4] at H
          have c4b0 : decide (x5_1 < (l0.length : Int)) = true := decide_eq_true c4
          clear c4
          by_cases c5 : 0 ≤ x5_1
          · rw [if_pos c5] at H
            have c5b0 : decide (0 ≤ x5_1) = true := decide_eq_true c5
            clear c5
            by_cases c6 : x5_1 < (l1.length : Int)
            · rw [if_pos c6] at H
              have c6b0 : decide (x5_1 < (l1.length : Int)) = true := decide_eq_true c6
              clear c6
              replace H := Option.bind_eq_some_iff.mp H
              obtain ⟨t196, A70, H⟩ := H
              replace H : (if t196 = true then (estreatref04_SameAll.l0 k1 l0 l1 (wrap64 (x5_1 + 1))) else (some false)) = some r := H
              have A7 := Aside0.mk A70
              clear A70
              by_cases c8 : t196 = true
              · subst c8
                have H1 : (estreatref04_SameAll.l0 k1 l0 l1 (wrap64 (x5_1 + 1))) = some r := by rw [if_pos rfl] at H; exact H
                clear H
                have H := H1
                clear H1
                have H' := Aside0.mk H
                clear H
                have p194 : 0 ≤ (x5_1 : Int) := of_decide_eq_true (by first | (with_reducible assumption) | assumption)
                have q194 : x5_1 < (l0.length : Int) := of_decide_eq_true (by first | (with_reducible assumption) | assumption)
                obtain ⟨ad194, A194_0, c194_0, e194, hx194_0, hl194_0, hi194_0⟩ := at_L7 HR0.out x5_1 p194 q194
                cases e194
                have HR194_0 := Aside0.mk hi194_0
                have HC194_0 := Aside0.mk hl194_0
                clear hi194_0 hl194_0
                replace p194 := eq_true p194
                replace q194 := eq_true q194
                have p195 : 0 ≤ (x5_1 : Int) := of_decide_eq_true (by first | (with_reducible assumption) | assumption)
                have q195 : x5_1 < (l1.length : Int) := of_decide_eq_true (by first | (with_reducible assumption) | assumption)
                obtain ⟨ad195, A195_0, c195_0, e195, hx195_0, hl195_0, hi195_0⟩ := at_L7 HR1.out x5_1 p195 q195
                cases e195
                have HR195_0 := Aside0.mk hi195_0
                have HC195_0 := Aside0.mk hl195_0
                clear hi195_0 hl195_0
                replace p195 := eq_true p195
                replace q195 := eq_true q195
                go_wp2_with (first | (go_at_call 12; (with_reducible refine (estreatref01_Same.calls k1 _ _ (rd_L7 l0 x5_1) _ _ (rd_L7 l1 x5_1) true _ ?side1 ?side2 ?side3 ?side4 A7.out).mono ?_); (case side1 => repeat (first | exact HR194_0.out | (with_reducible refine Kd.C_alloc ?_ _) | (with_reducible refine Kd.C_drewN ?_ _) | (with_reducible refine Kd.C_drew ?_))); (case side2 => exact HC194_0.out); (case side3 => repeat (first | exact HR195_0.out | (with_reducible refine Kd.C_alloc ?_ _) | (with_reducible refine Kd.C_drewN ?_ _) | (with_reducible refine Kd.C_drew ?_))); (case side4 => exact HC195_0.out); rintro e w' ⟨rfl, ⟨nd, rfl⟩⟩; (try first | exact ⟨rfl, _, World.drewN_drewN _ _ _⟩ | exact ⟨rfl, _, Eq.trans (World.drewN_drewN _ _ _) (congrArg (World.drewN _) (Nat.add_assoc _ _ _))⟩)))
                repeat (go_quiet (first | (go_at_call 12; (with_reducible refine (estreatref01_Same.calls k1 _ _ (rd_L7 l0 x5_1) _ _ (rd_L7 l1 x5_1) true _ ?side1 ?side2 ?side3 ?side4 A7.out).mono ?_); (case side1 => repeat (first | exact HR194_0.out | (with_reducible refine Kd.C_alloc ?_ _) | (with_reducible refine Kd.C_drewN ?_ _) | (with_reducible refine Kd.C_drew ?_))); (case side2 => exact HC194_0.out); (case side3 => repeat (first | exact HR195_0.out | (with_reducible refine Kd.C_alloc ?_ _) | (with_reducible refine Kd.C_drewN ?_ _) | (with_reducible refine Kd.C_drew ?_))); (case side4 => exact HC195_0.out); rintro e w' ⟨rfl, ⟨nd, rfl⟩⟩; (try first | exact ⟨rfl, _, World.drewN_drewN _ _ _⟩ | exact ⟨rfl, _, Eq.trans (World.drewN_drewN _ _ _) (congrArg (World.drewN _) (Nat.add_assoc _ _ _))⟩))); try go_wp2_with (first | (go_at_call 12; (with_reducible refine (estreatref01_Same.calls k1 _ _ (rd_L7 l0 x5_1) _ _ (rd_L7 l1 x5_1) true _ ?side1 ?side2 ?side3 ?side4 A7.out).mono ?_); (case side1 => repeat (first | exact HR194_0.out | (with_reducible refine Kd.C_alloc ?_ _) | (with_reducible refine Kd.C_drewN ?_ _) | (with_reducible refine Kd.C_drew ?_))); (case side2 => exact HC194_0.out); (case side3 => repeat (first | exact HR195_0.out | (with_reducible refine Kd.C_alloc ?_ _) | (with_reducible refine Kd.C_drewN ?_ _) | (with_reducible refine Kd.C_drew ?_))); (case side4 => exact HC195_0.out); rintro e w' ⟨rfl, ⟨nd, rfl⟩⟩; (try first | exact ⟨rfl, _, World.drewN_drewN _ _ _⟩ | exact ⟨rfl, _, Eq.trans (World.drewN_drewN _ _ _) (congrArg (World.drewN _) (Nat.add_assoc _ _ _))⟩))))
                go_roundg k1
                case measure => have := HK1.out; omega
                case rel => exact ⟨(wrap64 (x5_1 + 1)), (by first | rfl | (simp; done) | (simp [*]; done)), H', ⟨by have := HK1.out; omega⟩, by repeat (first | exact Drawn0.refl _ | apply Drawn0.step)⟩
              · replace c8 := Bool.eq_false_iff.mpr c8
                subst c8
                have H1 : (some false) = some r := by rw [if_neg (show ¬ (false = true) by decide)] at H; exact H
                clear H
                have H := H1
                clear H1
                obtain rfl := Option.some.inj H
                have p194 : 0 ≤ (x5_1 : Int) := of_decide_eq_true (by first | (with_reducible assumption) | assumption)
                have q194 : x5_1 < (l0.length : Int) := of_decide_eq_true (by first | (with_reducible assumption) | assumption)
                obtain ⟨ad194, A194_0, c194_0, e194, hx194_0, hl194_0, hi194_0⟩ := at_L7 HR0.out x5_1 p194 q194
                cases e194
                have HR194_0 := Aside0.mk hi194_0
                have HC194_0 := Aside0.mk hl194_0
                clear hi194_0 hl194_0
                replace p194 := eq_true p194
                replace q194 := eq_true q194
                have p195 : 0 ≤ (x5_1 : Int) := of_decide_eq_true (by first | (with_reducible assumption) | assumption)
                have q195 : x5_1 < (l1.length : Int) := of_decide_eq_true (by first | (with_reducible assumption) | assumption)
                obtain ⟨ad195, A195_0, c195_0, e195, hx195_0, hl195_0, hi195_0⟩ := at_L7 HR1.out x5_1 p195 q195
                cases e195
                have HR195_0 := Aside0.mk hi195_0
                have HC195_0 := Aside0.mk hl195_0
                clear hi195_0 hl195_0
                replace p195 := eq_true p195
                replace q195 := eq_true q195
                go_wp2_with (first | (go_at_call 12; (with_reducible refine (estreatref01_Same.calls k1 _ _ (rd_L7 l0 x5_1) _ _ (rd_L7 l1 x5_1) false _ ?side1 ?side2 ?side3 ?side4 A7.out).mono ?_); (case side1 => repeat (first | exact HR194_0.out | (with_reducible refine Kd.C_alloc ?_ _) | (with_reducible refine Kd.C_drewN ?_ _) | (with_reducible refine Kd.C_drew ?_))); (case side2 => exact HC194_0.out); (case side3 => repeat (first | exact HR195_0.out | (with_reducible refine Kd.C_alloc ?_ _) | (with_reducible refine Kd.C_drewN ?_ _) | (with_reducible refine Kd.C_drew ?_))); (case side4 => exact HC195_0.out); rintro e w' ⟨rfl, ⟨nd, rfl⟩⟩; (try first | exact ⟨rfl, _, World.drewN_drewN _ _ _⟩ | exact ⟨rfl, _, Eq.trans (World.drewN_drewN _ _ _) (congrArg (World.drewN _) (Nat.add_assoc _ _ _))⟩)))
                repeat (go_quiet (first | (go_at_call 12; (with_reducible refine (estreatref01_Same.calls k1 _ _ (rd_L7 l0 x5_1) _ _ (rd_L7 l1 x5_1) false _ ?side1 ?side2 ?side3 ?side4 A7.out).mono ?_); (case side1 => repeat (first | exact HR194_0.out | (with_reducible refine Kd.C_alloc ?_ _) | (with_reducible refine Kd.C_drewN ?_ _) | (with_reducible refine Kd.C_drew ?_))); (case side2 => exact HC194_0.out); (case side3 => repeat (first | exact HR195_0.out | (with_reducible refine Kd.C_alloc ?_ _) | (with_reducible refine Kd.C_drewN ?_ _) | (with_reducible refine Kd.C_drew ?_))); (case side4 => exact HC195_0.out); rintro e w' ⟨rfl, ⟨nd, rfl⟩⟩; (try first | exact ⟨rfl, _, World.drewN_drewN _ _ _⟩ | exact ⟨rfl, _, Eq.trans (World.drewN_drewN _ _ _) (congrArg (World.drewN _) (Nat.add_assoc _ _ _))⟩))); try go_wp2_with (first | (go_at_call 12; (with_reducible refine (estreatref01_Same.calls k1 _ _ (rd_L7 l0 x5_1) _ _ (rd_L7 l1 x5_1) false _ ?side1 ?side2 ?side3 ?side4 A7.out).mono ?_); (case side1 => repeat (first | exact HR194_0.out | (with_reducible refine Kd.C_alloc ?_ _) | (with_reducible refine Kd.C_drewN ?_ _) | (with_reducible refine Kd.C_drew ?_))); (case side2 => exact HC194_0.out); (case side3 => repeat (first | exact HR195_0.out | (with_reducible refine Kd.C_alloc ?_ _) | (with_reducible refine Kd.C_drewN ?_ _) | (with_reducible refine Kd.C_drew ?_))); (case side4 => exact HC195_0.out); rintro e w' ⟨rfl, ⟨nd, rfl⟩⟩; (try first | exact ⟨rfl, _, World.drewN_drewN _ _ _⟩ | exact ⟨rfl, _, Eq.trans (World.drewN_drewN _ _ _) (congrArg (World.drewN _) (Nat.add_assoc _ _ _))⟩))))
                go_ret
                exact ⟨by first | rfl | (simp; done) | (simp [*]; done), by repeat (first | exact Drawn0.refl _ | apply Drawn0.step)⟩
            · rw [if_neg c6] at H
              exact absurd H (by simp)
          · rw [if_neg c5] at H
            exact absurd H (by simp)
        · rw [if_neg c4] at H
          have c4b0 : decide (x5_1 < (l0.length : Int)) = false := decide_eq_false c4
          clear c4
          obtain rfl := Option.some.inj H
          go_wp2
          repeat (go_quiet (fail); try go_wp2)
          go_ret
          exact ⟨by first | rfl | (simp; done) | (simp [*]; done), by repeat (first | exact Drawn0.refl _ | apply Drawn0.step)⟩
  · rw [if_neg c3] at H
    have c3b0 : ((l0.length : Int) == (l1.length : Int)) = false := beq_eq_false_iff_ne.mpr c3
    have c3b1 : ((l0.length : Int) != (l1.length : Int)) = true := bne_iff_ne.mpr c3
    have c3b2 : (l0.length == l1.length) = false := by first | simpa using c3 | (simp at c3 ⊢; omega)
    obtain rfl := Option.some.inj H
    go_enter Tryz.func25, Tryz.ntmps25
    go_wp2
    repeat (go_quiet (fail); try go_wp2)
    go_ret
    exact ⟨by first | rfl | (simp; done) | (simp [*]; done), by repeat (first | exact Drawn0.refl _ | apply Drawn0.step)⟩

end Go.Proofs.YtjmhiklmlgbifaaGreatDoor.PMan
end
section
-- Printed for this claim by a program of this session's own (it runs the kit's print another way): Lean checks it.
namespace Go.Proofs.YtjmhiklmlgbifaaGreatDoor.PMan
open Go.RowKit Go.Proofs.YtjmhiklmlgbifaaGreatDoorW.PrintWords Go.Proofs.YtjmhiklmlgbifaaGreatDoorW.PrintLast Go.Proofs.YtjmhiklmlgbifaaGreatDoorW.PrintMore
attribute [local go_sem] max2_int min2_int max_two min_two max_three min_three max_four min_four   -- for this text's walks alone
set_option linter.unusedVariables false
set_option linter.unusedSimpArgs false

/-! ### estreatref01_Fix: function 76 -/
def estreatref01_Fix.l0 : Nat → Int → Int → List Int → Int → Option (List Int)
  | 0, _, _, _, _ => none
  | k + 1, x0, x1, x5, x6 => if x6 < x1 then (if x6 < 8 then (if x5.length < 140737488355328 then (estreatref01_Fix.l0 k (IntKind.u64.wrap (Int.tdiv x0 256)) x1 (x5 ++ [(Int.tmod x0 256) % 256]) (wrap64 (x6 + 1))) else (none)) else (some x5)) else (some x5)
def estreatref01_Fix.f (k : Nat) (a0 : Int) (a1 : Int) : Option (List Int) := estreatref01_Fix.l0 k a0 a1 ([] : List Int) 0
theorem estreatref01_Fix.mono_l : ∀ k, (∀ y0 y1 y2 y3, LeO (estreatref01_Fix.l0 k y0 y1 y2 y3) (estreatref01_Fix.l0 (k + 1) y0 y1 y2 y3))
  | 0 => fun _ _ _ _ r h => by simp [estreatref01_Fix.l0] at h
  | k + 1 => by
    have ih0 := estreatref01_Fix.mono_l k
    · intro y0 y1 y2 y3
      unfold estreatref01_Fix.l0
      repeat' first
      | (with_reducible exact ih0 _ _ _ _)
      | (with_reducible exact LeO.refl _)
      | (with_reducible exact LeO.none _)
      | (with_reducible refine LeO.ite ?_ ?_)
      | (with_reducible refine LeO.bind ?_ (fun _ => ?_))
      | exact ih0 _ _ _ _
      | exact LeO.none _
      | refine LeO.ite ?_ ?_
      | refine LeO.bind ?_ (fun _ => ?_)
theorem estreatref01_Fix.mono : ∀ a0 a1 k, LeO (estreatref01_Fix.f k a0 a1) (estreatref01_Fix.f (k + 1) a0 a1) := by
  intro a0 a1 k
  have ih0 := estreatref01_Fix.mono_l k
  unfold estreatref01_Fix.f
  repeat' first
      | (with_reducible exact ih0 _ _ _ _)
      | (with_reducible exact LeO.refl _)
      | (with_reducible exact LeO.none _)
      | (with_reducible refine LeO.ite ?_ ?_)
      | (with_reducible refine LeO.bind ?_ (fun _ => ?_))
      | exact ih0 _ _ _ _
      | exact LeO.none _
      | refine LeO.ite ?_ ?_
      | refine LeO.bind ?_ (fun _ => ?_)
set_option maxHeartbeats 8000000 in
set_option maxRecDepth 100000 in
theorem estreatref01_Fix.calls (k : Nat) (a0 : Int) (a1 : Int) (r : List Int) (w : World) (h : estreatref01_Fix.f k a0 a1 = some r) :
    Calls Tryz.prog 76 #[.int .u64 a0, .int .i64 a1] w fun e w' => ∃ v0_ : Value, e = .returned (v0_) ∧ Kd.R (Kd.int .u8) 5 w' w.heap.size (fun _ => True) v0_ r ∧ Below w.heap.size w w' := by
  have HB := Aside0.mk (Below.refl w.heap.size w)
  have H : (estreatref01_Fix.l0 k a0 a1 ([] : List Int) 0) = some r := h
  clear h
  have H' := Aside0.mk H
  clear H
  go_enter Tryz.func76, Tryz.ntmps76
  go_wp2
  go_loopg [0, 5, 6] k (fun kq v0 v5 v6 w' => ∃ (x0_1 : Int) (x5_1 : List Int) (x6_1 : Int), v0 = .int .u64 x0_1 ∧ v6 = .int .i64 x6_1 ∧ Aside0 (estreatref01_Fix.l0 kq x0_1 a1 x5_1 x6_1 = some r) ∧ Aside0 (kq ≤ k) ∧ Aside0 (Kd.R (Kd.int .u8) 5 w' w.heap.size (fun _ => True) v5 x5_1) ∧ Aside0 (Below w.heap.size w w'))
  case atStart => exact ⟨(a0), (([] : List Int)), (0), (by first | rfl | (simp; done) | (simp [*]; done)), (by first | rfl | (simp; done) | (simp [*]; done)), H', ⟨Nat.le_refl _⟩, ⟨by first | exact Kd.R_nil _ _ _ _ _ | exact Kd.N_nil _ _ _ _ _ | exact Kd.V_nil _ _ _ _ _ | exact Kd.Q_nil _ _ _ _ _ | exact Kd.S_nil _ _ _ _ _⟩, ⟨by repeat (first | (with_reducible first | exact HB.out | apply below_alloc | apply pw_below_drewN | apply below_drew1) | exact HB.out)⟩⟩
  case round =>
    clear H'
    try clear p2
    obtain ⟨x0_1, x5_1, x6_1, rfl, rfl, HA, HK1, HO_5, HB⟩ := hrel
    cases gk with
    | zero => exact absurd HA.out (by simp [estreatref01_Fix.l0])
    | succ k1 =>
      have H := HA.out
      clear HA
      simp only [estreatref01_Fix.l0] at H
      by_cases c3 : x6_1 < a1
      · rw [if_pos c3] at H
        have c3b0 : decide (x6_1 < a1) = true := decide_eq_true c3
        clear c3
        by_cases c4 : x6_1 < 8
        · rw [if_pos c4] at H
          have c4b0 : decide (x6_1 < 8) = true := decide_eq_true c4
          clear c4
          by_cases c5 : x5_1.length < 140737488355328
          · rw [if_pos c5] at H
            have LMc5 := Aside0.mk c5
            clear c5
            obtain ⟨y197, hy197⟩ : ∃ y_ : List Int, y_ = (x5_1 ++ [(Int.tmod x0_1 256) % 256]) := ⟨_, rfl⟩
            replace H : (estreatref01_Fix.l0 k1 (IntKind.u64.wrap (Int.tdiv x0_1 256)) a1 y197 (wrap64 (x6_1 + 1))) = some r := by first | (rw [hy197]; with_reducible exact H) | (have H2_ := (Option.bind_some _ _).symm.trans H; rw [hy197]; with_reducible exact H2_) | (have H2_ := (Option.bind_some _ _).symm.trans H; with_reducible exact H2_) | with_reducible exact H | (rw [hy197]; exact H) | exact H
            have Ny197 := Aside0.mk hy197
            clear hy197
            have H' := Aside0.mk H
            clear H
            go_wp2_with (first | ((with_reducible refine gate_builtin (b := .append) (xs := #[.tmp 16, .tmp 20]) rfl ?_); at_builtin; refine Kd.R_append (Kd.int .u8) (w0 := w) w.heap.size rfl (.tmp 16) (.tmp 20) 30 5 (.int .u8 0) 1 rfl Tryz.underlying30 info5 rfl (by decide) (by omega) u5 x5_1 ((Int.tmod x0_1 256) % 256) [.int .u8 ((Int.tmod x0_1 256) % 256)] (fun _ => True) (fun _ => False) rfl rfl ?aP (fun _ hk => hk.elim) ?aF ?aO ?aB ?aS ?aL ?_; (case aP => exact rfl); (case aB => exact (by repeat (first | (with_reducible first | exact HB.out | apply below_alloc | apply pw_below_drewN | apply below_drew1) | exact HB.out))); (case aF => exact (fun _ _ => trivial)); (case aO => exact (by (with_reducible repeat (first | apply Kd.R_alloc | apply Kd.R_drewN | apply Kd.R_drew)); exact HO_5.out)); (case aS => exact (below_size (by repeat (first | (with_reducible first | exact HB.out | apply below_alloc | apply pw_below_drewN | apply below_drew1) | exact HB.out)))); (case aL => have := LMc5.out; omega); intro v198 w6 ho hb hg hat; rw [← Ny197.out] at ho; have n0_ := Aside0.mk (hb); have n1_ := Aside0.mk (ho); clear HB; clear HO_5; have HB := n0_; have HO199 := n1_; clear n0_ n1_; clear ho hb hg hat))
            go_roundg k1
            case measure => have := HK1.out; omega
            case rel => exact ⟨(IntKind.u64.wrap (Int.tdiv x0_1 256)), (y197), (wrap64 (x6_1 + 1)), (by first | rfl | (simp; done) | (simp [*]; done)), (by first | rfl | (simp; done) | (simp [*]; done)), H', ⟨by have := HK1.out; omega⟩, ⟨by (with_reducible repeat (first | apply Kd.R_alloc | apply Kd.R_drewN | apply Kd.R_drew)); exact HO199.out⟩, ⟨by repeat (first | (with_reducible first | exact HB.out | apply below_alloc | apply pw_below_drewN | apply below_drew1) | exact HB.out)⟩⟩
          · rw [if_neg c5] at H
            exact absurd H (by simp)
        · rw [if_neg c4] at H
          have c4b0 : decide (x6_1 < 8) = false := decide_eq_false c4
          clear c4
          obtain rfl := Option.some.inj H
          go_wp2
          go_ret
          exact ⟨_, by first | rfl | (simp [errW_none, errW_some] <;> rfl) | (simp [*, errW_none, errW_some] <;> rfl), by (with_reducible repeat (first | apply Kd.R_alloc | apply Kd.R_drewN | apply Kd.R_drew)); exact HO_5.out, by repeat (first | (with_reducible first | exact HB.out | apply below_alloc | apply pw_below_drewN | apply below_drew1) | exact HB.out)⟩
      · rw [if_neg c3] at H
        have c3b0 : decide (x6_1 < a1) = false := decide_eq_false c3
        clear c3
        obtain rfl := Option.some.inj H
        go_wp2
        go_ret
        exact ⟨_, by first | rfl | (simp [errW_none, errW_some] <;> rfl) | (simp [*, errW_none, errW_some] <;> rfl), by (with_reducible repeat (first | apply Kd.R_alloc | apply Kd.R_drewN | apply Kd.R_drew)); exact HO_5.out, by repeat (first | (with_reducible first | exact HB.out | apply below_alloc | apply pw_below_drewN | apply below_drew1) | exact HB.out)⟩

/-! ### estreatref03_take: function 112 -/
def estreatref03_take.f (a0 : Int) (a1 : Int) : Option (Int) := if (Int.tmod a0 2) = a1 then (some ((Int.tdiv a0 2) % 4294967296)) else (some (Go.bits .xor .u32 ((Int.tdiv a0 2) % 4294967296) 3988292384))
set_option maxHeartbeats 8000000 in
set_option maxRecDepth 100000 in
theorem estreatref03_take.calls (a0 : Int) (a1 : Int) (r : Int) (w : World) (h : estreatref03_take.f a0 a1 = some r) :
    Calls Tryz.prog 112 #[.int .u32 a0, .int .u32 a1] w fun e w' => e = .returned (.int .u32 r) ∧ Drawn0 w w' := by
  have H : (if (Int.tmod a0 2) = a1 then (some ((Int.tdiv a0 2) % 4294967296)) else (some (Go.bits .xor .u32 ((Int.tdiv a0 2) % 4294967296) 3988292384))) = some r := h
  clear h
  by_cases c3 : (Int.tmod a0 2) = a1
  · rw [if_pos c3] at H
    have c3b0 : ((Int.tmod a0 2) == a1) = true := beq_iff_eq.mpr c3
    have c3b1 : ((Int.tmod a0 2) != a1) = false := bne_eq_false_iff_eq.mpr c3
    clear c3
    obtain rfl := Option.some.inj H
    go_enter Tryz.func112, Tryz.ntmps112
    go_wp2
    go_ret
    exact ⟨by first | rfl | (simp; done) | (simp [*]; done), by repeat (first | exact Drawn0.refl _ | apply Drawn0.step)⟩
  · rw [if_neg c3] at H
    have c3b0 : ((Int.tmod a0 2) == a1) = false := beq_eq_false_iff_ne.mpr c3
    have c3b1 : ((Int.tmod a0 2) != a1) = true := bne_iff_ne.mpr c3
    obtain rfl := Option.some.inj H
    go_enter Tryz.func112, Tryz.ntmps112
    go_wp2
    go_ret
    exact ⟨by first | rfl | (simp; done) | (simp [*]; done), by repeat (first | exact Drawn0.refl _ | apply Drawn0.step)⟩

end Go.Proofs.YtjmhiklmlgbifaaGreatDoor.PMan
end
section
-- Printed for this claim by a program of this session's own (it runs the kit's print another way): Lean checks it.
namespace Go.Proofs.YtjmhiklmlgbifaaGreatDoor.PMan
open Go.RowKit Go.Proofs.YtjmhiklmlgbifaaGreatDoorW.PrintWords Go.Proofs.YtjmhiklmlgbifaaGreatDoorW.PrintLast Go.Proofs.YtjmhiklmlgbifaaGreatDoorW.PrintMore
attribute [local go_sem] max2_int min2_int max_two min_two max_three min_three max_four min_four   -- for this text's walks alone
set_option linter.unusedVariables false
set_option linter.unusedSimpArgs false

/-! ### estreatref03_More: function 77 -/
mutual
def estreatref03_More.l0 : Nat → List Int → Int → Int → Option (Int)
  | 0, _, _, _ => none
  | k + 1, x1, x5, x6 => if x6 < (x1.length : Int) then (if 0 ≤ x6 then (estreatref03_More.l1 k x1 x5 x6 ((rd x1 x6) % 4294967296) 0) else (none)) else (some ((4294967295 - x5) % 4294967296))
def estreatref03_More.l1 : Nat → List Int → Int → Int → Int → Int → Option (Int)
  | 0, _, _, _, _, _ => none
  | k + 1, x1, x5, x6, x7, x8 => if x8 < 8 then ((estreatref03_take.f x5 (Int.tmod x7 2)).bind fun t201 => (estreatref03_More.l1 k x1 t201 x6 ((Int.tdiv x7 2) % 4294967296) (wrap64 (x8 + 1)))) else (estreatref03_More.l0 k x1 x5 (wrap64 (x6 + 1)))
end
def estreatref03_More.f (k : Nat) (a0 : Int) (l1 : List Int) : Option (Int) := estreatref03_More.l0 k l1 ((4294967295 - a0) % 4294967296) 0
theorem estreatref03_More.mono_l : ∀ k, (∀ y0 y1 y2, LeO (estreatref03_More.l0 k y0 y1 y2) (estreatref03_More.l0 (k + 1) y0 y1 y2)) ∧ (∀ y0 y1 y2 y3 y4, LeO (estreatref03_More.l1 k y0 y1 y2 y3 y4) (estreatref03_More.l1 (k + 1) y0 y1 y2 y3 y4))
  | 0 => ⟨fun _ _ _ r h => by simp [estreatref03_More.l0] at h, fun _ _ _ _ _ r h => by simp [estreatref03_More.l1] at h⟩
  | k + 1 => by
    obtain ⟨ih0, ih1⟩ := estreatref03_More.mono_l k
    refine ⟨?_, ?_⟩
    · intro y0 y1 y2
      unfold estreatref03_More.l0
      repeat' first
      | (with_reducible exact ih0 _ _ _)
      | (with_reducible exact ih1 _ _ _ _ _)
      | (with_reducible exact LeO.refl _)
      | (with_reducible exact LeO.none _)
      | (with_reducible refine LeO.ite ?_ ?_)
      | (with_reducible refine LeO.bind ?_ (fun _ => ?_))
      | exact ih0 _ _ _
      | exact ih1 _ _ _ _ _
      | exact LeO.none _
      | refine LeO.ite ?_ ?_
      | refine LeO.bind ?_ (fun _ => ?_)
    · intro y0 y1 y2 y3 y4
      unfold estreatref03_More.l1
      repeat' first
      | (with_reducible exact ih0 _ _ _)
      | (with_reducible exact ih1 _ _ _ _ _)
      | (with_reducible exact LeO.refl _)
      | (with_reducible exact LeO.none _)
      | (with_reducible refine LeO.ite ?_ ?_)
      | (with_reducible refine LeO.bind ?_ (fun _ => ?_))
      | exact ih0 _ _ _
      | exact ih1 _ _ _ _ _
      | exact LeO.none _
      | refine LeO.ite ?_ ?_
      | refine LeO.bind ?_ (fun _ => ?_)
theorem estreatref03_More.mono : ∀ a0 a1 k, LeO (estreatref03_More.f k a0 a1) (estreatref03_More.f (k + 1) a0 a1) := by
  intro a0 a1 k
  obtain ⟨ih0, ih1⟩ := estreatref03_More.mono_l k
  unfold estreatref03_More.f
  repeat' first
      | (with_reducible exact ih0 _ _ _)
      | (with_reducible exact ih1 _ _ _ _ _)
      | (with_reducible exact LeO.refl _)
      | (with_reducible exact LeO.none _)
      | (with_reducible refine LeO.ite ?_ ?_)
      | (with_reducible refine LeO.bind ?_ (fun _ => ?_))
      | exact ih0 _ _ _
      | exact ih1 _ _ _ _ _
      | exact LeO.none _
      | refine LeO.ite ?_ ?_
      | refine LeO.bind ?_ (fun _ => ?_)
set_option maxHeartbeats 8000000 in
set_option maxRecDepth 100000 in
theorem estreatref03_More.calls (k : Nat) (a0 : Int) (A1 : Option Addr) (c1 : Nat) (l1 : List Int) (r : Int) (w : World) (hr1 : Kd.C (Kd.int .u8) w A1 l1.length l1) (hc1 : l1.length ≤ c1) (h : estreatref03_More.f k a0 l1 = some r) :
    Calls Tryz.prog 77 #[.int .u32 a0, .slice A1 l1.length c1] w fun e w' => e = .returned (.int .u32 r) ∧ Drawn0 w w' := by
  have HR1 := Aside0.mk hr1
  have HC1 := Aside0.mk hc1
  clear hr1 hc1
  have H : (estreatref03_More.l0 k l1 ((4294967295 - a0) % 4294967296) 0) = some r := h
  clear h
  have H' := Aside0.mk H
  clear H
  go_enter Tryz.func77, Tryz.ntmps77
  go_wp2
  go_loopg [5, 6] k (fun kq v5 v6 w' => ∃ (x5_1 : Int) (x6_1 : Int), v5 = .int .u32 x5_1 ∧ v6 = .int .i64 x6_1 ∧ Aside0 (estreatref03_More.l0 kq l1 x5_1 x6_1 = some r) ∧ Aside0 (kq ≤ k) ∧ Drawn0 w w')
  case atStart => exact ⟨((4294967295 - a0) % 4294967296), (0), (by first | rfl | (simp; done) | (simp [*]; done)), (by first | rfl | (simp; done) | (simp [*]; done)), H', ⟨Nat.le_refl _⟩, by repeat (first | exact Drawn0.refl _ | apply Drawn0.step)⟩
  case round =>
    clear H'
    try clear c1
    try clear p2
    obtain ⟨x5_1, x6_1, rfl, rfl, HA, HK1, ⟨m1, rfl⟩⟩ := hrel
    cases gk with
    | zero => exact absurd HA.out (by simp [estreatref03_More.l0])
    | succ k1 =>
      have H := HA.out
      clear HA
      simp only [estreatref03_More.l0] at H
      by_cases c3 : x6_1 < (l1.length : Int)
      · rw [if_pos c3] at H
        have c3b0 : decide (x6_1 < (l1.length : Int)) = true := decide_eq_true c3
        clear c3
        by_cases c4 : 0 ≤ x6_1
        · rw [if_pos c4] at H
          have c4b0 : decide (0 ≤ x6_1) = true := decide_eq_true c4
          clear c4
          have H' := Aside0.mk H
          clear H
          have p200 : 0 ≤ (x6_1 : Int) := of_decide_eq_true (by first | (with_reducible assumption) | assumption)
          have q200 : x6_1 < (l1.length : Int) := of_decide_eq_true (by first | (with_reducible assumption) | assumption)
          obtain ⟨ad200, e200, hx200_0⟩ := Kd.at_int HR1.out x6_1 p200 q200
          cases e200
          replace p200 := eq_true p200
          replace q200 := eq_true q200
          go_wp2
          go_loopg [5, 7, 8] k1 (fun kq v5 v7 v8 w' => ∃ (x5_2 : Int) (x7_2 : Int) (x8_2 : Int), v5 = .int .u32 x5_2 ∧ v7 = .int .u32 x7_2 ∧ v8 = .int .i64 x8_2 ∧ Aside0 (estreatref03_More.l1 kq l1 x5_2 x6_1 x7_2 x8_2 = some r) ∧ Aside0 (kq ≤ k1) ∧ Drawn0 w w')
          case atStart => exact ⟨(x5_1), ((rd l1 x6_1) % 4294967296), (0), (by first | rfl | (simp; done) | (simp [*]; done)), (by first | rfl | (simp; done) | (simp [*]; done)), (by first | rfl | (simp; done) | (simp [*]; done)), H', ⟨Nat.le_refl _⟩, by repeat (first | exact Drawn0.refl _ | apply Drawn0.step)⟩
          case round =>
            clear H'
            try clear c1
            try clear p2
            try clear q2
            try clear hx2
            try clear c3
            try clear c3b0
            try clear c4
            try clear c4b0
            try clear hx200_0
            try clear p2
            try clear p200
            try clear q200
            obtain ⟨x5_2, x7_2, x8_2, rfl, rfl, rfl, HA, HK2, ⟨m2, rfl⟩⟩ := hrel
            cases gk with
            | zero => exact absurd HA.out (by simp [estreatref03_More.l1])
            | succ k2 =>
              have H := HA.out
              clear HA
              simp only [estreatref03_More.l1] at H
              by_cases c5 : x8_2 < 8
              · rw [if_pos c5] at H
                have c5b0 : decide (x8_2 < 8) = true := decide_eq_true c5
                clear c5
                replace H := Option.bind_eq_some_iff.mp H
                obtain ⟨t201, A60, H⟩ := H
                replace H : (estreatref03_More.l1 k2 l1 t201 x6_1 ((Int.tdiv x7_2 2) % 4294967296) (wrap64 (x8_2 + 1))) = some r := H
                have A6 := Aside0.mk A60
                clear A60
                have H' := Aside0.mk H
                clear H
                go_wp2_with (first | ((with_reducible refine gate_callee (f := 112) rfl ?_); refine goesL_ (some 29) rfl rfl Tryz.func112 (by kernel_rfl) rfl #[.int .u32 x5_2, .int .u32 (Int.tmod x7_2 2)] rfl (by (try simp only [List.map_toArray, List.map_cons, List.map_nil]); first | done | rfl | (simp only [List.length_drop, List.length_take]; rfl)) ?_; (with_reducible refine (estreatref03_take.calls x5_2 (Int.tmod x7_2 2) t201 _ A6.out).mono ?_); rintro e w' ⟨rfl, ⟨nd, rfl⟩⟩; refine ⟨_, rfl, ?_⟩))
                go_roundg k2
                case measure => have := HK1.out; have := HK2.out; omega
                case rel => exact ⟨(t201), ((Int.tdiv x7_2 2) % 4294967296), (wrap64 (x8_2 + 1)), (by first | rfl | (simp; done) | (simp [*]; done)), (by first | rfl | (simp; done) | (simp [*]; done)), (by first | rfl | (simp; done) | (simp [*]; done)), H', ⟨by have := HK1.out; have := HK2.out; omega⟩, by repeat (first | exact Drawn0.refl _ | apply Drawn0.step)⟩
              · rw [if_neg c5] at H
                have c5b0 : decide (x8_2 < 8) = false := decide_eq_false c5
                clear c5
                have H' := Aside0.mk H
                clear H
                go_wp2
                go_roundg k2
                case measure => have := HK1.out; have := HK2.out; omega
                case rel => exact ⟨(x5_2), (wrap64 (x6_1 + 1)), (by first | rfl | (simp; done) | (simp [*]; done)), (by first | rfl | (simp; done) | (simp [*]; done)), H', ⟨by have := HK1.out; have := HK2.out; omega⟩, by repeat (first | exact Drawn0.refl _ | apply Drawn0.step)⟩
        · rw [if_neg c4] at H
          exact absurd H (by simp)
      · rw [if_neg c3] at H
        have c3b0 : decide (x6_1 < (l1.length : Int)) = false := decide_eq_false c3
        clear c3
        obtain rfl := Option.some.inj H
        go_wp2
        go_ret
        exact ⟨by first | rfl | (simp; done) | (simp [*]; done), by repeat (first | exact Drawn0.refl _ | apply Drawn0.step)⟩

/-! ### words: rr -/
/-- A reference's reader at block g of W: its bytes (which came in by w0), its place, its error's number, and that one's place. -/
def RR (w0 W : World) (g : Nat) (f0 : List Int) (f1 f2 f3 : Int) : Prop :=
  ∃ A c, W.heap[g]? = some (.cells #[.slice A f0.length c, .int .i64 f1, .int .i64 f2, .int .i64 f3] 109 (0, 0)) ∧ w0.heap.size ≤ g ∧ Kd.C (Kd.int .u8) w0 A f0.length f0 ∧ f0.length ≤ c
theorem RR.below {w0 W W1 : World} {g : Nat} {f0 : List Int} {f1 f2 f3 : Int} (h : RR w0 W g f0 f1 f2 f3) (hb : Below W.heap.size W W1) : RR w0 W1 g f0 f1 f2 f3 := by
  obtain ⟨A, c, h1, h2, h3, h4⟩ := h
  exact ⟨A, c, (hb.block g (blk_lt h1)).trans h1, h2, h3, h4⟩
theorem RR.drewN {w0 W : World} {g : Nat} {f0 : List Int} {f1 f2 f3 : Int} (h : RR w0 W g f0 f1 f2 f3) (n : Nat) : RR w0 (W.drewN n) g f0 f1 f2 f3 := h
theorem RR.drew {w0 W : World} {g : Nat} {f0 : List Int} {f1 f2 f3 : Int} (h : RR w0 W g f0 f1 f2 f3) : RR w0 W.drew g f0 f1 f2 f3 := h
theorem RR.lt {w0 W : World} {g : Nat} {f0 : List Int} {f1 f2 f3 : Int} (h : RR w0 W g f0 f1 f2 f3) : g < W.heap.size := by
  obtain ⟨A, c, h1, _⟩ := h
  exact blk_lt h1
theorem RR.ge {w0 W : World} {g : Nat} {f0 : List Int} {f1 f2 f3 : Int} (h : RR w0 W g f0 f1 f2 f3) : w0.heap.size ≤ g := by
  obtain ⟨A, c, _, h2, _⟩ := h
  exact h2
theorem RR.set_at {w0 W : World} {g : Nat} {f0 : List Int} {f1 f2 f3 : Int} (h : RR w0 W g f0 f1 f2 f3) (x : Int) : RR w0 (W.setCell ⟨g, 1, none⟩ (.int .i64 x)) g f0 x f2 f3 := by
  obtain ⟨A, c, h1, h2, h3, h4⟩ := h
  exact ⟨A, c, by simpa using blk_set h1 1 (.int .i64 x), h2, h3, h4⟩
theorem RR.set_e {w0 W : World} {g : Nat} {f0 : List Int} {f1 f2 f3 : Int} (h : RR w0 W g f0 f1 f2 f3) (x : Int) : RR w0 (W.setCell ⟨g, 2, none⟩ (.int .i64 x)) g f0 f1 x f3 := by
  obtain ⟨A, c, h1, h2, h3, h4⟩ := h
  exact ⟨A, c, by simpa using blk_set h1 2 (.int .i64 x), h2, h3, h4⟩
theorem RR.set_on {w0 W : World} {g : Nat} {f0 : List Int} {f1 f2 f3 : Int} (h : RR w0 W g f0 f1 f2 f3) (x : Int) : RR w0 (W.setCell ⟨g, 3, none⟩ (.int .i64 x)) g f0 f1 f2 x := by
  obtain ⟨A, c, h1, h2, h3, h4⟩ := h
  exact ⟨A, c, by simpa using blk_set h1 3 (.int .i64 x), h2, h3, h4⟩
theorem KeepBut.rbelow {w W W1 : World} {g : Nat} (h : KeepBut w W g none) (hb : Below W.heap.size W W1) : KeepBut w W1 g none :=
  ⟨Nat.le_trans h.1 hb.size, fun i hi h1 h2 => (hb.block i (Nat.lt_of_lt_of_le hi h.1)).trans (h.2 i hi h1 h2)⟩

/-! ### estreatref01_Reader_Fail: function 102 -/
set_option maxHeartbeats 800000 in
set_option maxRecDepth 100000 in
theorem rr_fail (g : Nat) (s0 : List Int) (s1 s3 a1 : Int) (w0 w : World) (hI : RR w0 w g s0 s1 0 s3) (hn : a1 ≠ 0) :
    Calls Tryz.prog 102 #[.pointer (some ⟨g, 0, none⟩), .int .i64 a1] w fun e w' => e = .returned (.tuple #[]) ∧ RR w0 w' g s0 s1 a1 s1 ∧ KeepBut w w' g none ∧ Below w0.heap.size w w' := by
  have HI := Aside0.mk hI
  have hf := beq_eq_false_iff_ne.2 hn
  have hf' : (a1 != 0) = true := by simpa using hn
  obtain ⟨A, c, h1, h2, h3, h4⟩ := hI
  have hc0 := blk_cell h1 0
  have hc1 := blk_cell h1 1
  have hc2 := blk_cell h1 2
  have hc3 := blk_cell h1 3
  simp only [List.getElem?_toArray] at hc0 hc1 hc2 hc3
  have hf1 := blk_frozen h1 1
  have hf2 := blk_frozen h1 2
  have hf3 := blk_frozen h1 3
  have H2 := Aside0.mk h2
  clear h1 h2 h3 h4 hn
  go_enter Tryz.func102, Tryz.ntmps102
  go_wp2
  go_end0
  exact ⟨rfl, (HI.out.set_e a1).set_on s1, ((KeepBut.refl w g none).set_ 2 _).set_ 3 _, ((Below.refl _ w).setCell H2.out _).setCell H2.out _⟩

end Go.Proofs.YtjmhiklmlgbifaaGreatDoor.PMan
end
section
-- Printed for this claim by a program of this session's own (it runs the kit's print another way): Lean checks it.
namespace Go.Proofs.YtjmhiklmlgbifaaGreatDoor.PMan
open Go.RowKit Go.Proofs.YtjmhiklmlgbifaaGreatDoorW.PrintWords Go.Proofs.YtjmhiklmlgbifaaGreatDoorW.PrintLast Go.Proofs.YtjmhiklmlgbifaaGreatDoorW.PrintMore
attribute [local go_sem] max2_int min2_int max_two min_two max_three min_three max_four min_four   -- for this text's walks alone
set_option linter.unusedVariables false
set_option linter.unusedSimpArgs false

/-! ### estreatref01_Reader_Take: function 100 -/
def estreatref01_Reader_Take.f (s0 : List Int) (s1 s2 s3 : Int) (a1 : Int) : Option (List Int × Int × Int × Int) :=
  if s2 = 0 then
    if a1 < 0 then some ([], s1, 1, s1)
    else if 0 ≤ s1 then
      if s1 ≤ (s0.length : Int) then
        if (s0.length : Int) - s1 < a1 then some ([], s1, 2, s1)
        else if s0.length < 140737488355328 then some ((s0.take (s1 + a1).toNat).drop s1.toNat, s1 + a1, 0, s3) else none
      else none
    else none
  else some ([], s1, s2, s3)
set_option maxHeartbeats 800000 in
set_option maxRecDepth 100000 in
theorem rr_take_err (g : Nat) (s0 : List Int) (s1 s2 s3 a1 : Int) (w0 w : World) (hI : RR w0 w g s0 s1 s2 s3) (hn : s2 ≠ 0) :
    Calls Tryz.prog 100 #[.pointer (some ⟨g, 0, none⟩), .int .i64 a1] w fun e w' => e = .returned (.slice none 0 0) ∧ w = w' := by
  have hf' : (s2 != 0) = true := by simpa using hn
  obtain ⟨A, c, h1, h2, h3, h4⟩ := hI
  have hc2 := blk_cell h1 2
  simp only [List.getElem?_toArray] at hc2
  clear h1 h2 h3 h4 hn
  go_enter Tryz.func100, Tryz.ntmps100
  go_wp2
  go_ret
  exact ⟨rfl, rfl⟩
set_option maxHeartbeats 800000 in
set_option maxRecDepth 100000 in
theorem rr_take_neg (g : Nat) (s0 : List Int) (s1 s3 a1 : Int) (w0 w : World) (hI : RR w0 w g s0 s1 0 s3) (hn : a1 < 0) :
    Calls Tryz.prog 100 #[.pointer (some ⟨g, 0, none⟩), .int .i64 a1] w fun e w' => e = .returned (.slice none 0 0) ∧ RR w0 w' g s0 s1 1 s1 ∧ KeepBut w w' g none ∧ Below w0.heap.size w w' := by
  have HI := Aside0.mk hI
  obtain ⟨A, c, h1, h2, h3, h4⟩ := hI
  have hc2 := blk_cell h1 2
  simp only [List.getElem?_toArray] at hc2
  clear h1 h2 h3 h4
  go_enter Tryz.func100, Tryz.ntmps100
  go_wp2_with fail
  refine (rr_fail g s0 s1 s3 1 w0 _ HI.out (by decide)).mono ?_
  rintro e w' ⟨rfl, h⟩
  have H := Aside0.mk h
  clear h
  go_wp2
  go_ret
  exact ⟨rfl, H.out⟩
set_option maxHeartbeats 800000 in
set_option maxRecDepth 100000 in
theorem rr_take_short (g : Nat) (s0 : List Int) (s1 s3 a1 : Int) (w0 w : World) (hI : RR w0 w g s0 s1 0 s3) (hp : ¬ (a1 < 0)) (h0 : 0 ≤ s1) (hl1 : s1 ≤ (s0.length : Int)) (hn : (s0.length : Int) - s1 < a1) :
    Calls Tryz.prog 100 #[.pointer (some ⟨g, 0, none⟩), .int .i64 a1] w fun e w' => e = .returned (.slice none 0 0) ∧ RR w0 w' g s0 s1 2 s1 ∧ KeepBut w w' g none ∧ Below w0.heap.size w w' := by
  have HI := Aside0.mk hI
  obtain ⟨A, c, h1, h2, h3, h4⟩ := hI
  have hm : s0.length ≤ 9223372036854775807 := Kd.C_max h3
  have hw : wrap64 ((s0.length : Int) - s1) = (s0.length : Int) - s1 := by unfold wrap64; omega
  have hc0 := blk_cell h1 0
  have hc1 := blk_cell h1 1
  have hc2 := blk_cell h1 2
  simp only [List.getElem?_toArray] at hc0 hc1 hc2
  have hd : decide ((s0.length : Int) - s1 < a1) = true := decide_eq_true hn
  have hd2 : decide (wrap64 ((s0.length : Int) - s1) < a1) = true := by rw [hw]; exact hd
  clear h1 h2 h3 h4 hw hm h0 hl1 hd
  go_enter Tryz.func100, Tryz.ntmps100
  go_wp2
  go_quiet (fail)
  go_wp2_with fail
  refine (rr_fail g s0 s1 s3 2 w0 (w.drewN _) (HI.out.drewN _) (by decide)).mono ?_
  rintro e w' ⟨rfl, h⟩
  have H := Aside0.mk h
  clear h
  go_wp2
  go_ret
  exact ⟨rfl, H.out.1, H.out.2.1, Below.trans (pw_below_drewN (Below.refl _ w) _) H.out.2.2⟩
-- THE WAY THAT CUTS
set_option maxHeartbeats 1600000 in
set_option maxRecDepth 100000 in
theorem rr_take_yes (g : Nat) (s0 : List Int) (s1 s3 a1 : Int) (w0 w : World) (hI : RR w0 w g s0 s1 0 s3) (h0 : 0 ≤ s1) (h1 : 0 ≤ a1) (h2 : a1 ≤ (s0.length : Int) - s1) (hl : s0.length < 140737488355328) (hB : Below w0.heap.size w0 w) :
    Calls Tryz.prog 100 #[.pointer (some ⟨g, 0, none⟩), .int .i64 a1] w fun e w' => ∃ v, e = .returned v ∧ Kd.R (Kd.int .u8) 5 w' w.heap.size (fun _ => True) v ((s0.take (s1 + a1).toNat).drop s1.toNat) ∧ RR w0 w' g s0 (s1 + a1) 0 s3 ∧ KeepBut w w' g none ∧ Below w0.heap.size w w' := by
  have HI := Aside0.mk hI
  have hw : wrap64 ((s0.length : Int) - s1) = (s0.length : Int) - s1 := by unfold wrap64; omega
  have hw2 : wrap64 (s1 + a1) = s1 + a1 := by unfold wrap64; omega
  have hw3 : wrap64 s1 = s1 := by unfold wrap64; omega
  have hd1 : decide (a1 < 0) = false := decide_eq_false (by omega)
  have hd2 : decide (wrap64 ((s0.length : Int) - s1) < a1) = false := by rw [hw]; exact decide_eq_false (by omega)
  have HW2 := Aside0.mk hw2
  have HW3 := Aside0.mk hw3
  have HB := Aside0.mk hB
  obtain ⟨A, c, k1, k2, k3, k4⟩ := hI
  obtain ⟨i0, hi0, hz0⟩ := Option.map_eq_some_iff.1 clone_info
  simp only [Prod.mk.injEq] at hz0
  obtain ⟨A', hcut, hcr, hcl⟩ := print_mid_int (P := Tryz.prog) (k := .u8) 30 5 Tryz.underlying30 hi0 hz0.2.1 A c s0 s1 (s1 + a1) h0 (by omega) (by omega) k4
  have hc0 := blk_cell k1 0
  have hc1 := blk_cell k1 1
  have hc2 := blk_cell k1 2
  have hf1 := blk_frozen k1 1
  simp only [List.getElem?_toArray] at hc0 hc1 hc2
  have K1 := Aside0.mk k1
  have K2 := Aside0.mk k2
  have KR := Aside0.mk (Kd.C_of_reads (d := (0 : Int)) (h1 := fun _ => rfl) (hcr w0 (Kd.reads_of_C k3)))
  have KC := Aside0.mk hcl
  have HLN : Aside0 (((s0.take (s1 + a1).toNat).drop s1.toNat).length < 140737488355328) := ⟨by rw [List.length_drop, List.length_take]; omega⟩
  clear hw hl hB k1 k2 k3 k4 h0 h1 h2 hcr hcl hz0 hi0 hw2 hw3
  generalize (s0.take (s1 + a1).toNat).drop s1.toNat = out at *
  go_enter Tryz.func100, Tryz.ntmps100
  go_wp2
  go_quiet (fail)
  go_wp2_with fail
  rw [HW2.out]
  have hblk := blk_set (blk_drewN K1.out nq) 1 (.int .i64 (s1 + a1))
  have hsz : w.heap.size ≤ ((w.drewN nq).setCell ⟨g, 1, none⟩ (.int .i64 (s1 + a1))).drew.heap.size := by show w.heap.size ≤ ((w.drewN nq).setCell ⟨g, 1, none⟩ (.int .i64 (s1 + a1))).heap.size; simp
  have hkb : KeepBut w ((w.drewN nq).setCell ⟨g, 1, none⟩ (.int .i64 (s1 + a1))).drew g none := KeepBut.rbelow ((KeepBut.of_below (pw_below_drewN (Below.refl _ w) nq) g none).set_ 1 _) (below_drew (Below.refl _ _))
  have hbb : Below w0.heap.size w ((w.drewN nq).setCell ⟨g, 1, none⟩ (.int .i64 (s1 + a1))).drew := below_drew ((pw_below_drewN (Below.refl _ w) nq).setCell K2.out _)
  have hrd : RR w0 ((w.drewN nq).setCell ⟨g, 1, none⟩ (.int .i64 (s1 + a1))).drew g s0 (s1 + a1) 0 s3 := ((HI.out.drewN nq).set_at _).drew
  have hc0 := blk_cell hblk 0
  have hc1 := blk_cell hblk 1
  simp only [List.setIfInBounds_toArray, List.set_cons_succ, List.set_cons_zero, List.getElem?_toArray] at hc0 hc1
  have hc0 : ((w.drewN nq).setCell ⟨g, 1, none⟩ (.int .i64 (s1 + a1))).drew.cell? ⟨g, 0, none⟩ = some (.slice A s0.length c) := hc0
  have hc1 : ((w.drewN nq).setCell ⟨g, 1, none⟩ (.int .i64 (s1 + a1))).drew.cell? ⟨g, 1, none⟩ = some (.int .i64 (s1 + a1)) := hc1
  have HC0 := Aside0.mk hc0
  have HC1 := Aside0.mk hc1
  have HSZ := Aside0.mk hsz
  have HKB := Aside0.mk hkb
  have HBB := Aside0.mk hbb
  have HBX := Aside0.mk (HB.out.trans hbb)
  have HRD := Aside0.mk hrd
  clear hblk hsz hkb hbb hrd hf1 hc2 K1
  refine start_ (n := 18) (S := fun w' => w'.cell? ⟨g, 0, none⟩ = some (.slice A s0.length c) ∧ w'.cell? ⟨g, 1, none⟩ = some (.int .i64 (s1 + a1))) (ds := []) #[false, false, false, false, false, false, false, false, false, false, false, false, false, false, false, false, false, false] (by kernel_rfl) rfl rfl ⟨hc0, hc1⟩ (fun hHeld => ?_)
  generalize ((w.drewN nq).setCell ⟨g, 1, none⟩ (.int .i64 (s1 + a1))).drew = W2 at *
  refine pure_ (i := 1) (N := some 38) (v := ?_) (a' := ?_) #[false, true, false, false, false, false, false, false, false, false, false, false, false, false, false, false, false, false] rfl rfl (by kernel_rfl) (fun _ _ _ h => h) (Or.inl ⟨by rfl, ?_⟩) ?_ ?_
  rotate_left
  · intro w'
    go_simp
    with_reducible rfl
  rotate_left
  · simp only [Act.put, List.setIfInBounds_toArray, List.set_cons_zero, List.set_cons_succ, i64_w, i32_w]
    rfl
  refine pure_ (i := 2) (N := some 39) (v := ?_) (a' := ?_) #[false, true, true, false, false, false, false, false, false, false, false, false, false, false, false, false, false, false] rfl rfl (by kernel_rfl) (fun _ _ _ h => h) (Or.inl ⟨by rfl, ?_⟩) ?_ ?_
  rotate_left
  · intro w'
    go_simp
    with_reducible rfl
  rotate_left
  · simp only [Act.put, List.setIfInBounds_toArray, List.set_cons_zero, List.set_cons_succ, i64_w, i32_w]
    rfl
  refine pure_ (i := 3) (N := some 40) (v := ?_) (a' := ?_) #[false, true, true, true, false, false, false, false, false, false, false, false, false, false, false, false, false, false] rfl rfl (by kernel_rfl) (fun _ _ _ h => h) (Or.inl ⟨by rfl, ?_⟩) ?_ ?_
  rotate_left
  · intro w'
    go_simp
    with_reducible rfl
  rotate_left
  · simp only [Act.put, List.setIfInBounds_toArray, List.set_cons_zero, List.set_cons_succ, i64_w, i32_w]
    rfl
  refine pure_ (i := 5) (N := some 42) (v := ?_) (a' := ?_) #[false, true, true, true, false, true, false, false, false, false, false, false, false, false, false, false, false, false] rfl rfl (by kernel_rfl) (fun _ _ _ h => h) (Or.inl ⟨by rfl, ?_⟩) ?_ ?_
  rotate_left
  · intro w'
    go_simp
    with_reducible rfl
  rotate_left
  · simp only [Act.put, List.setIfInBounds_toArray, List.set_cons_zero, List.set_cons_succ, i64_w, i32_w]
    rfl
  refine pure_ (i := 6) (N := some 43) (v := ?_) (a' := ?_) #[false, true, true, true, false, true, true, false, false, false, false, false, false, false, false, false, false, false] rfl rfl (by kernel_rfl) (fun _ _ _ h => h) (Or.inl ⟨by rfl, ?_⟩) ?_ ?_
  rotate_left
  · intro w'
    go_simp
    with_reducible rfl
  rotate_left
  · simp only [Act.put, List.setIfInBounds_toArray, List.set_cons_zero, List.set_cons_succ, i64_w, i32_w]
    rfl
  refine pure_ (i := 7) (N := some 44) (v := ?_) (a' := ?_) #[false, true, true, true, false, true, true, true, false, false, false, false, false, false, false, false, false, false] rfl rfl (by kernel_rfl) (fun _ _ _ h => h) (Or.inl ⟨by rfl, ?_⟩) ?_ ?_
  rotate_left
  · intro w'
    go_simp
    with_reducible rfl
  rotate_left
  · simp only [Act.put, List.setIfInBounds_toArray, List.set_cons_zero, List.set_cons_succ, i64_w, i32_w]
    rfl
  refine pure_ (i := 9) (N := some 46) (v := ?_) (a' := ?_) #[false, true, true, true, false, true, true, true, false, true, false, false, false, false, false, false, false, false] rfl rfl (by kernel_rfl) (fun _ _ _ h => h) (Or.inl ⟨by rfl, ?_⟩) ?_ ?_
  rotate_left
  · intro w'
    go_simp
    with_reducible rfl
  rotate_left
  · simp only [Act.put, List.setIfInBounds_toArray, List.set_cons_zero, List.set_cons_succ, i64_w, i32_w]
    rfl
  refine pure_ (i := 11) (N := some 48) (v := ?_) (a' := ?_) #[false, true, true, true, false, true, true, true, false, true, false, true, false, false, false, false, false, false] rfl rfl (by kernel_rfl) (fun _ _ _ h => h) (Or.inl ⟨by rfl, ?_⟩) ?_ ?_
  rotate_left
  · intro w'
    go_simp
    with_reducible rfl
  rotate_left
  · simp only [Act.put, List.setIfInBounds_toArray, List.set_cons_zero, List.set_cons_succ, i64_w, i32_w]
    rfl
  refine pure_ (i := 12) (N := some 49) (v := ?_) (a' := ?_) #[false, true, true, true, false, true, true, true, false, true, false, true, true, false, false, false, false, false] rfl rfl (by kernel_rfl) (fun _ _ _ h => h) (Or.inl ⟨by rfl, ?_⟩) ?_ ?_
  rotate_left
  · intro w'
    go_simp
    with_reducible rfl
  rotate_left
  · simp only [Act.put, List.setIfInBounds_toArray, List.set_cons_zero, List.set_cons_succ, i64_w, i32_w]
    rfl
  refine pure_ (i := 13) (N := some 50) (v := ?_) (a' := ?_) #[false, true, true, true, false, true, true, true, false, true, false, true, true, true, false, false, false, false] rfl rfl (by kernel_rfl) (fun _ _ _ h => h) (Or.inl ⟨by rfl, ?_⟩) ?_ ?_
  rotate_left
  · intro w'
    go_simp
    with_reducible rfl
  rotate_left
  · simp only [Act.put, List.setIfInBounds_toArray, List.set_cons_zero, List.set_cons_succ, i64_w, i32_w]
    rfl
  refine take_ (i := 4) (N := some 41) (v := ?_) (a' := ?_) #[false, true, true, true, true, true, true, true, false, true, false, true, true, true, false, false, false, false] rfl rfl (by kernel_rfl) (fun _ _ _ h => h) (Or.inl ⟨by rfl, ?_⟩) hHeld ?_ ?_
  rotate_left
  · rintro w' ⟨s0, s1⟩
    go_simp
    with_reducible rfl
  rotate_left
  · simp only [Act.put, List.setIfInBounds_toArray, List.set_cons_zero, List.set_cons_succ, i64_w, i32_w]
    rfl
  refine take_ (i := 8) (N := some 45) (v := ?_) (a' := ?_) #[false, true, true, true, true, true, true, true, true, true, false, true, true, true, false, false, false, false] rfl rfl (by kernel_rfl) (fun _ _ _ h => h) (Or.inl ⟨by rfl, ?_⟩) hHeld ?_ ?_
  rotate_left
  · rintro w' ⟨s0, s1⟩
    go_simp
    with_reducible rfl
  rotate_left
  · simp only [Act.put, List.setIfInBounds_toArray, List.set_cons_zero, List.set_cons_succ, i64_w, i32_w]
    rfl
  refine pure_ (i := 10) (N := some 47) (v := ?_) (a' := ?_) #[false, true, true, true, true, true, true, true, true, true, true, true, true, true, false, false, false, false] rfl rfl (by kernel_rfl) (fun _ _ _ h => h) (Or.inl ⟨by rfl, ?_⟩) ?_ ?_
  rotate_left
  · intro w'
    go_simp
    with_reducible rfl
  rotate_left
  · simp only [Act.put, List.setIfInBounds_toArray, List.set_cons_zero, List.set_cons_succ, i64_w, i32_w]
    rfl
  rw [HW3.out]
  refine take_ (i := 14) (N := some 51) (v := ?_) (a' := ?_) #[false, true, true, true, true, true, true, true, true, true, true, true, true, true, true, false, false, false] rfl rfl (by kernel_rfl) (fun _ _ _ h => h) (Or.inl ⟨by rfl, ?_⟩) hHeld ?_ ?_
  rotate_left
  · rintro w' ⟨s0, s1⟩
    go_simp
    with_reducible rfl
  rotate_left
  · simp only [Act.put, List.setIfInBounds_toArray, List.set_cons_zero, List.set_cons_succ, i64_w, i32_w]
    rfl
  refine pure_ (i := 15) (N := some 52) (v := ?_) (a' := ?_) #[false, true, true, true, true, true, true, true, true, true, true, true, true, true, true, true, false, false] rfl rfl (by kernel_rfl) (fun _ _ _ h => h) (Or.inl ⟨by rfl, ?_⟩) ?_ ?_
  rotate_left
  · intro w'
    go_simp
    with_reducible rfl
  rotate_left
  · simp only [Act.put, List.setIfInBounds_toArray, List.set_cons_zero, List.set_cons_succ, i64_w, i32_w]
    rfl
  refine one_ (i := 0) (N := some 37) #[true, true, true, true, true, true, true, true, true, true, true, true, true, true, true, true, false, false] rfl rfl (by kernel_rfl) (by decide) (fun K hK => ?_)
  refine Kd.R_lit_step (Kd.int .u8) _ 5 ?hg (N := 37) ?hd (xs := ([] : List Int)) (inner := []) (ok := fun _ => True) (okp := fun _ => True) ?hr ?hp (fun _ hk => hk) trivial (Below.refl _ _) (Nat.le_refl _) (by simp) ?_; (case hd => rfl); (case hg => rfl); (case hr => first | (go_simp; done) | (go_simp; rfl)); (case hp => exact (Reps.none _ _))
  intro v1 w30 ho1 hb1 hg_ hnew_
  clear hg_ hnew_
  have HO1 := Aside0.mk ho1
  have HBL := Aside0.mk hb1
  clear ho1 hb1
  have hc0 := pw_cell_below HBL.out hc0
  have hc1 := pw_cell_below HBL.out hc1
  refine hK.out _ _ ⟨hc0, hc1⟩ (fun hHeld => ?_)
  clear hK K
  refine norm_ (a' := ?_) ?_ ?_
  rotate_left
  · show Act.put _ (some 37) _ = _
    simp only [Act.put, List.setIfInBounds_toArray, List.set_cons_zero, List.set_cons_succ, i64_w, i32_w]
    rfl
  refine one_ (i := 16) (N := some 53) #[true, true, true, true, true, true, true, true, true, true, true, true, true, true, true, true, true, false] rfl rfl (by kernel_rfl) (by decide) (fun K hK => ?_)
  refine Kd.R_append_rows_step (Kd.int .u8) (w0 := W2) W2.heap.size (by rfl) (.tmp 37) (.tmp 52) 30 5 (.int .u8 0) 1 rfl Tryz.underlying30 info5 rfl (by decide) (by omega) v1 ([] : List Int) out _ _ _ (fun _ => True) (fun _ => False) rfl rfl HO1.out (Kd.C_below KR.out (HBX.out.trans (HBL.out.mono HBX.out.size))) (fun _ _ h => h) (fun _ h => h.elim) (fun _ _ => trivial) HBL.out HBL.out.size (by have := HLN.out; simp; omega) ?_
  intro v2 w34 ho2 hb2 hg_ hat_
  clear hg_ hat_
  rw [List.nil_append] at ho2
  have HO2 := Aside0.mk ho2
  have HB2 := Aside0.mk hb2
  clear ho2 hb2
  have hc0 := pw_cell_below HB2.out HC0.out
  have hc1 := pw_cell_below HB2.out HC1.out
  refine hK.out _ _ ⟨hc0, hc1⟩ (fun hHeld => ?_)
  clear hK K
  refine norm_ (a' := ?_) ?_ ?_
  rotate_left
  · show Act.put _ (some 53) _ = _
    simp only [Act.put, List.setIfInBounds_toArray, List.set_cons_zero, List.set_cons_succ, i64_w, i32_w]
    rfl
  refine pure_ (i := 17) (N := some 4) (v := ?_) (a' := ?_) #[true, true, true, true, true, true, true, true, true, true, true, true, true, true, true, true, true, true] rfl rfl (by kernel_rfl) (fun _ _ _ h => h) (Or.inl ⟨by rfl, ?_⟩) ?_ ?_
  rotate_left
  · intro w'
    go_simp
    with_reducible rfl
  rotate_left
  · simp only [Act.put, List.setIfInBounds_toArray, List.set_cons_zero, List.set_cons_succ, i64_w, i32_w]
    rfl
  refine done_ (by kernel_rfl) ?_
  go_wp2
  go_ret
  exact ⟨_, rfl, Kd.R_lower HO2.out HSZ.out, HRD.out.below HB2.out, KeepBut.rbelow HKB.out HB2.out, HBB.out.trans (HB2.out.mono (by have := HBB.out.size; have := HB.out.size; have := HSZ.out; omega))⟩
theorem estreatref01_Reader_Take.calls (g : Nat) (s0 : List Int) (s1 s2 s3 : Int) (a1 : Int) (r1 : List Int) (r2 r3 r4 : Int) (w0 w : World) (hI : RR w0 w g s0 s1 s2 s3) (hB : Below w0.heap.size w0 w) (h : estreatref01_Reader_Take.f s0 s1 s2 s3 a1 = some (r1, r2, r3, r4)) :
    Calls Tryz.prog 100 #[.pointer (some ⟨g, 0, none⟩), .int .i64 a1] w fun e w' => ∃ v0_ : Value, e = .returned v0_ ∧ Kd.R (Kd.int .u8) 5 w' w.heap.size (fun _ => True) v0_ r1 ∧ RR w0 w' g s0 r2 r3 r4 ∧ Below w0.heap.size w0 w' ∧ KeepBut w w' g none := by
  unfold estreatref01_Reader_Take.f at h
  by_cases q2 : s2 = 0
  · rw [if_pos q2] at h
    subst q2
    by_cases q3 : a1 < 0
    · rw [if_pos q3] at h
      simp only [Option.some.injEq, Prod.mk.injEq] at h
      obtain ⟨rfl, rfl, rfl, rfl⟩ := h
      refine (rr_take_neg g s0 s1 s3 a1 w0 w hI q3).mono ?_
      rintro e w' ⟨rfl, k1, k2, k3⟩
      exact ⟨_, rfl, Kd.R_nil _ _ _ _ _, k1, hB.trans k3, k2⟩
    · rw [if_neg q3] at h
      by_cases q4 : 0 ≤ s1
      · rw [if_pos q4] at h
        by_cases q5 : s1 ≤ (s0.length : Int)
        · rw [if_pos q5] at h
          by_cases q6 : (s0.length : Int) - s1 < a1
          · rw [if_pos q6] at h
            simp only [Option.some.injEq, Prod.mk.injEq] at h
            obtain ⟨rfl, rfl, rfl, rfl⟩ := h
            refine (rr_take_short g s0 s1 s3 a1 w0 w hI q3 q4 q5 q6).mono ?_
            rintro e w' ⟨rfl, k1, k2, k3⟩
            exact ⟨_, rfl, Kd.R_nil _ _ _ _ _, k1, hB.trans k3, k2⟩
          · rw [if_neg q6] at h
            by_cases q7 : s0.length < 140737488355328
            · rw [if_pos q7] at h
              simp only [Option.some.injEq, Prod.mk.injEq] at h
              obtain ⟨rfl, rfl, rfl, rfl⟩ := h
              refine (rr_take_yes g s0 s1 s3 a1 w0 w hI q4 (by omega) (by omega) q7 hB).mono ?_
              rintro e w' ⟨v, rfl, k0, k1, k2, k3⟩
              exact ⟨_, rfl, k0, k1, hB.trans k3, k2⟩
            · rw [if_neg q7] at h
              cases h
        · rw [if_neg q5] at h
          cases h
      · rw [if_neg q4] at h
        cases h
  · rw [if_neg q2] at h
    simp only [Option.some.injEq, Prod.mk.injEq] at h
    obtain ⟨rfl, rfl, rfl, rfl⟩ := h
    refine (rr_take_err g s0 s1 s2 s3 a1 w0 w hI q2).mono ?_
    rintro e w' ⟨rfl, rfl⟩
    exact ⟨_, rfl, Kd.R_nil _ _ _ _ _, hI, hB, KeepBut.refl _ _ _⟩

end Go.Proofs.YtjmhiklmlgbifaaGreatDoor.PMan
end
section
-- Printed for this claim by a program of this session's own (it runs the kit's print another way): Lean checks it.
namespace Go.Proofs.YtjmhiklmlgbifaaGreatDoor.PMan
open Go.RowKit Go.Proofs.YtjmhiklmlgbifaaGreatDoorW.PrintWords Go.Proofs.YtjmhiklmlgbifaaGreatDoorW.PrintLast Go.Proofs.YtjmhiklmlgbifaaGreatDoorW.PrintMore
attribute [local go_sem] max2_int min2_int max_two min_two max_three min_three max_four min_four   -- for this text's walks alone
set_option linter.unusedVariables false
set_option linter.unusedSimpArgs false

/-! ### estreatref01_Reader_Fix: function 99 -/
/-- What the reference reckons of the bytes it took. -/
def rfixv : List Int → Option Int
  | [] => some 0
  | [a, b, c, d] => some (IntKind.u64.wrap (IntKind.u64.wrap (256 * IntKind.u64.wrap (IntKind.u64.wrap (256 * IntKind.u64.wrap (IntKind.u64.wrap (256 * IntKind.u64.wrap (IntKind.u64.wrap d)) + IntKind.u64.wrap c)) + IntKind.u64.wrap b)) + IntKind.u64.wrap a))
  | _ => none
/-- r.Fix(4). -/
def estreatref01_Reader_Fix.f (s0 : List Int) (s1 s2 s3 : Int) : Option (Int × Int × Int × Int) :=
  (estreatref01_Reader_Take.f s0 s1 s2 s3 4).bind fun r => (rfixv r.1).bind fun v => some (v, r.2)
set_option maxHeartbeats 1600000 in
set_option maxRecDepth 100000 in
theorem rr_fix_0 (g : Nat) (s0 : List Int) (s1 s2 s3 : Int) (v : Int) (r2 r3 r4 : Int) (w0 w : World) (hI : RR w0 w g s0 s1 s2 s3) (hB : Below w0.heap.size w0 w) (h : estreatref01_Reader_Take.f s0 s1 s2 s3 4 = some ([], r2, r3, r4)) (hv : rfixv [] = some v) :
    Calls Tryz.prog 99 #[.pointer (some ⟨g, 0, none⟩), .int .i64 4] w fun e w' => e = .returned (.int .u64 v) ∧ RR w0 w' g s0 r2 r3 r4 ∧ Below w0.heap.size w0 w' ∧ KeepBut w w' g none := by
  have HI := Aside0.mk hI
  have HB := Aside0.mk hB
  have HF := Aside0.mk h
  have HV := Aside0.mk (Option.some.inj hv)
  clear hI hB h hv
  go_enter Tryz.func99, Tryz.ntmps99
  go_wp2_with fail
  refine (estreatref01_Reader_Take.calls g s0 s1 s2 s3 4 _ r2 r3 r4 w0 _ HI.out HB.out HF.out).mono ?_
  rintro e w1 ⟨vv, rfl, hr, h1, h2, h3⟩
  obtain ⟨A, c, rfl⟩ := Kd.R_slice hr
  have H1 := Aside0.mk h1
  have H2 := Aside0.mk h2
  have H3 := Aside0.mk h3
  clear hr h1 h2 h3
  go_wp2
  go_rounds 1
  go_ret
  exact ⟨by rw [← HV.out]; rfl, H1.out, H2.out, H3.out⟩
set_option maxHeartbeats 1600000 in
set_option maxRecDepth 100000 in
theorem rr_fix_4 (g : Nat) (s0 : List Int) (s1 s2 s3 : Int) (x0 x1 x2 x3 v : Int) (r2 r3 r4 : Int) (w0 w : World) (hI : RR w0 w g s0 s1 s2 s3) (hB : Below w0.heap.size w0 w) (h : estreatref01_Reader_Take.f s0 s1 s2 s3 4 = some ([x0, x1, x2, x3], r2, r3, r4)) (hv : rfixv [x0, x1, x2, x3] = some v) :
    Calls Tryz.prog 99 #[.pointer (some ⟨g, 0, none⟩), .int .i64 4] w fun e w' => e = .returned (.int .u64 v) ∧ RR w0 w' g s0 r2 r3 r4 ∧ Below w0.heap.size w0 w' ∧ KeepBut w w' g none := by
  have HI := Aside0.mk hI
  have HB := Aside0.mk hB
  have HF := Aside0.mk h
  have HV := Aside0.mk (Option.some.inj hv)
  clear hI hB h hv
  go_enter Tryz.func99, Tryz.ntmps99
  go_wp2_with fail
  refine (estreatref01_Reader_Take.calls g s0 s1 s2 s3 4 _ r2 r3 r4 w0 _ HI.out HB.out HF.out).mono ?_
  rintro e w1 ⟨vv, rfl, hr, h1, h2, h3⟩
  obtain ⟨gb, cap, rfl, _⟩ := Kd.R_form hr (by simp)
  have c0 : w1.cell? ⟨gb, 0, none⟩ = some (.int .u8 x0) := (Kd.R_cell (0 : Int) hr 0 (by omega) (by simp)).1
  have c1 : w1.cell? ⟨gb, 1, none⟩ = some (.int .u8 x1) := (Kd.R_cell (0 : Int) hr 1 (by omega) (by simp)).1
  have c2 : w1.cell? ⟨gb, 2, none⟩ = some (.int .u8 x2) := (Kd.R_cell (0 : Int) hr 2 (by omega) (by simp)).1
  have c3 : w1.cell? ⟨gb, 3, none⟩ = some (.int .u8 x3) := (Kd.R_cell (0 : Int) hr 3 (by omega) (by simp)).1
  have H1 := Aside0.mk h1
  have H2 := Aside0.mk h2
  have H3 := Aside0.mk h3
  clear hr h1 h2 h3
  go_wp2
  go_rounds 5
  go_ret
  exact ⟨by rw [← HV.out]; rfl, H1.out, H2.out, H3.out⟩
theorem estreatref01_Reader_Fix.calls (g : Nat) (s0 : List Int) (s1 s2 s3 : Int) (r1 r2 r3 r4 : Int) (w0 w : World) (hI : RR w0 w g s0 s1 s2 s3) (hB : Below w0.heap.size w0 w) (h : estreatref01_Reader_Fix.f s0 s1 s2 s3 = some (r1, r2, r3, r4)) :
    Calls Tryz.prog 99 #[.pointer (some ⟨g, 0, none⟩), .int .i64 4] w fun e w' => e = .returned (.int .u64 r1) ∧ RR w0 w' g s0 r2 r3 r4 ∧ Below w0.heap.size w0 w' ∧ KeepBut w w' g none := by
  unfold estreatref01_Reader_Fix.f at h
  obtain ⟨⟨l, q2, q3, q4⟩, h1, h⟩ := Option.bind_eq_some_iff.mp h
  obtain ⟨v, hv, h⟩ := Option.bind_eq_some_iff.mp h
  have h := Option.some.inj h
  simp only [Prod.mk.injEq] at h
  obtain ⟨rfl, rfl, rfl, rfl⟩ := h
  match l, h1, hv with
  | [], h1, hv => exact rr_fix_0 g s0 s1 s2 s3 _ _ _ _ w0 w hI hB h1 hv
  | [x0, x1, x2, x3], h1, hv => exact rr_fix_4 g s0 s1 s2 s3 x0 x1 x2 x3 _ _ _ _ w0 w hI hB h1 hv

/-! ### estreatref04_Get: function 56 -/
/-- What the document reads: the part, the frame's bytes, the error's number. -/
def estreatref04_Get.f (k : Nat) (l : List Int) : Option (List Int × Int × Int) :=
  (estreatref01_Reader_Fix.f l 0 0 0).bind fun a =>
  if a.2.2.1 = 0 ∧ a.1 > 16777216 then some ([], 0, 12) else
  (estreatref01_Reader_Fix.f l a.2.1 a.2.2.1 a.2.2.2).bind fun b =>
  (estreatref01_Reader_Take.f l b.2.1 b.2.2.1 b.2.2.2 (wrap64 a.1)).bind fun t =>
  if t.2.2.1 = 0 then
    (estreatref01_Fix.f k a.1 4).bind fun x => if x.length + t.1.length < 140737488355328 then
      (estreatref03_More.f k 0 (x ++ t.1)).bind fun s => if s = b.1 % 4294967296 then some (t.1, t.2.1, 0) else some ([], 0, 6)
    else none
  else some ([], 0, 2)
theorem estreatref04_Get.mono : ∀ a0 k, LeO (estreatref04_Get.f k a0) (estreatref04_Get.f (k + 1) a0) := by
  intro a0 k
  unfold estreatref04_Get.f
  repeat' first
      | (with_reducible exact LeO.refl _)
      | (with_reducible exact LeO.none _)
      | (with_reducible exact estreatref01_Fix.mono _ _ _)
      | (with_reducible exact estreatref03_More.mono _ _ _)
      | (with_reducible refine LeO.ite ?_ ?_)
      | (with_reducible refine LeO.bind ?_ (fun _ => ?_))
set_option maxHeartbeats 4000000 in
set_option maxRecDepth 100000 in
theorem estreatref04_Get.calls (k : Nat) (A0 : Option Addr) (c0 : Nat) (l : List Int) (r1 : List Int) (r2 r3 : Int) (w : World) (hr0 : Kd.C (Kd.int .u8) w A0 l.length l) (hc0 : l.length ≤ c0) (h : estreatref04_Get.f k l = some (r1, r2, r3)) :
    Calls Tryz.prog 56 #[.slice A0 l.length c0] w fun e w' => ∃ v0_ : Value, e = .returned (.agg #[v0_, .int .i64 r2, .int .i64 r3]) ∧ Kd.R (Kd.int .u8) 5 w' w.heap.size (fun _ => True) v0_ r1 ∧ Below w.heap.size w w' := by
  obtain ⟨⟨n, a1, a2, a3⟩, ha, h⟩ := Option.bind_eq_some_iff.mp h
  simp only at h
  have HR := Aside0.mk hr0
  have HC := Aside0.mk hc0
  have HA := Aside0.mk ha
  have H := Aside0.mk h
  clear hr0 hc0 ha h
  go_enter Tryz.func56, Tryz.ntmps56
  go_wp2_with fail
  have hbw : Below w.heap.size w (w.alloc (.cells #[.slice none 0 0, .int .i64 0, .int .i64 0] 105)) := below_alloc (Below.refl _ _) _
  have hres : (w.alloc (.cells #[.slice none 0 0, .int .i64 0, .int .i64 0] 105)).heap[w.heap.size]? = some (.cells #[.slice none 0 0, .int .i64 0, .int .i64 0] 105 (0, 0)) := heap_alloc_new w _
  have hsz : (w.alloc (.cells #[.slice none 0 0, .int .i64 0, .int .i64 0] 105)).heap.size = w.heap.size + 1 := by simp
  rw [← hsz]
  generalize w.alloc (.cells #[.slice none 0 0, .int .i64 0, .int .i64 0] 105) = W0 at *
  have hrr : RR W0 (W0.alloc (.cells #[.slice A0 l.length c0, .int .i64 0, .int .i64 0, .int .i64 0] 109)) W0.heap.size l 0 0 0 := ⟨A0, c0, heap_alloc_new W0 _, Nat.le_refl _, Kd.C_below HR.out hbw, HC.out⟩
  have hb0 : Below W0.heap.size W0 (W0.alloc (.cells #[.slice A0 l.length c0, .int .i64 0, .int .i64 0, .int .i64 0] 109)) := below_alloc (Below.refl _ _) _
  have HBW := Aside0.mk hbw
  have HRES := Aside0.mk hres
  have HSZ := Aside0.mk hsz
  have HRR := Aside0.mk hrr
  have HB0 := Aside0.mk hb0
  clear hbw hres hsz hrr hb0
  refine (estreatref01_Reader_Fix.calls W0.heap.size l 0 0 0 n a1 a2 a3 W0 _ HRR.out HB0.out HA.out).mono ?_
  clear HRR HB0 HA
  rintro e w2 ⟨rfl, hrr, hb, _⟩
  have HR1 := Aside0.mk hrr
  have HB1 := Aside0.mk hb
  have hx : w2.heap[w.heap.size]? = some (.cells #[.slice none 0 0, .int .i64 0, .int .i64 0] 105 (0, 0)) := (hb.block _ (by have := HSZ.out; omega)).trans HRES.out
  obtain ⟨A, c, k1, k2, k3, k4⟩ := hrr
  have hc2 := blk_cell k1 2
  simp only [List.getElem?_toArray] at hc2
  have HX := Aside0.mk hx
  clear k1 k2 k3 k4 hx hb
  by_cases q : a2 = 0 ∧ n > 16777216
  · obtain ⟨rfl, q⟩ := q
    have q1 : decide ((16777216 : Int) < n) = true := decide_eq_true q
    have hx0 := blk_cell HX.out 0
    have hx1 := blk_cell HX.out 1
    have hx2 := blk_cell HX.out 2
    simp only [List.getElem?_toArray] at hx0 hx1 hx2
    have hf0 := blk_frozen HX.out 0
    have hf1 := blk_frozen HX.out 1
    have hf2 := blk_frozen HX.out 2
    clear q
    have h := H.out
    rw [if_pos ⟨rfl, by simpa using q1⟩] at h
    simp only [Option.some.injEq, Prod.mk.injEq] at h
    obtain ⟨rfl, rfl, rfl⟩ := h
    go_wp2
    refine bodyPost_ret (v := .agg #[.slice none 0 0, .int .i64 0, .int .i64 12]) (results_cell_row rfl _ _ w.heap.size 105 #[.slice none 0 0, .int .i64 0, .int .i64 12] (0, 0) _ rfl (by simpa using blk_set (blk_set (blk_set HX.out 0 (.slice none 0 0)) 1 (.int .i64 0)) 2 (.int .i64 12)) Tryz.underlying105 rfl (by kernel_rfl)) rfl ?_
    exact ⟨_, rfl, Kd.R_nil _ _ _ _ _, (((HBW.out.trans (HB1.out.mono HBW.out.size)).setCell (Nat.le_refl _) _).setCell (Nat.le_refl _) _).setCell (Nat.le_refl _) _⟩
  · have h := H.out
    rw [if_neg q] at h
    obtain ⟨⟨sm, b1, b2, b3⟩, hb2, h⟩ := Option.bind_eq_some_iff.mp h
    obtain ⟨⟨p, t1, t2, t3⟩, ht, h⟩ := Option.bind_eq_some_iff.mp h
    simp only at ht h
    have HF2 := Aside0.mk hb2
    have HT := Aside0.mk ht
    have H := Aside0.mk h
    clear h hb2 ht
    have hq : (a2 == 0) = false ∨ ((a2 == 0) = true ∧ decide ((16777216 : Int) < n) = false) := by
      by_cases e : a2 = 0
      · exact .inr ⟨by simpa using e, decide_eq_false (fun hh => q ⟨e, hh⟩)⟩
      · exact .inl (by simpa using e)
    clear q
    rcases hq with hq | ⟨hq, hq2⟩
    all_goals
      go_wp2_with fail
      refine (estreatref01_Reader_Fix.calls W0.heap.size l a1 a2 a3 sm b1 b2 b3 W0 _ HR1.out HB1.out HF2.out).mono ?_
      rintro e w3 ⟨rfl, hrr, hb, _⟩
      have HR2 := Aside0.mk hrr
      have HB2 := Aside0.mk hb
      clear hrr hb
      go_wp2_with fail
      refine (estreatref01_Reader_Take.calls W0.heap.size l b1 b2 b3 (wrap64 n) p t1 t2 t3 W0 _ HR2.out HB2.out HT.out).mono ?_
      rintro e w4 ⟨v, rfl, hp, hrr, hb, _⟩
      have HP := Aside0.mk hp
      have HR3 := Aside0.mk hrr
      have HB3 := Aside0.mk hb
      have hx : w4.heap[w.heap.size]? = some (.cells #[.slice none 0 0, .int .i64 0, .int .i64 0] 105 (0, 0)) := (hb.block _ (by have := HSZ.out; omega)).trans HRES.out
      obtain ⟨A2, c2, k1, k2, k3, k4⟩ := hrr
      have hc1 := blk_cell k1 1
      have hc2 := blk_cell k1 2
      simp only [List.getElem?_toArray] at hc1 hc2
      have HX4 := Aside0.mk hx
      have hx0 := blk_cell HX4.out 0
      have hx1 := blk_cell HX4.out 1
      have hx2 := blk_cell HX4.out 2
      simp only [List.getElem?_toArray] at hx0 hx1 hx2
      have hf0 := blk_frozen HX4.out 0
      have hf1 := blk_frozen HX4.out 1
      have hf2 := blk_frozen HX4.out 2
      obtain ⟨Av, cv, rfl⟩ := Kd.R_slice hp
      clear k1 k2 k3 k4 hx hb hp hq
      by_cases q4 : t2 = 0
      · subst q4
        have h := H.out
        rw [if_pos rfl] at h
        obtain ⟨x, hxx, h⟩ := Option.bind_eq_some_iff.mp h
        by_cases q5 : x.length + p.length < 140737488355328
        · rw [if_pos q5] at h
          obtain ⟨sv, hsv, h⟩ := Option.bind_eq_some_iff.mp h
          obtain ⟨y, hy⟩ : ∃ y, y = x ++ p := ⟨_, rfl⟩
          rw [← hy] at hsv
          have HY := Aside0.mk hy
          have HXX := Aside0.mk hxx
          have HSV := Aside0.mk hsv
          have HQ5 := Aside0.mk q5
          have HE := Aside0.mk h
          clear hxx hsv q5 h hy hx0 hx1 hx2 hf0 hf1 hf2
          go_wp2_with fail
          refine (estreatref01_Fix.calls k n 4 x _ HXX.out).mono ?_
          rintro e w5 ⟨vx, rfl, hrx, hbx⟩
          have HX5 := Aside0.mk hrx
          have HB5 := Aside0.mk hbx
          have HP5 := Aside0.mk (Kd.R_below HP.out hbx)
          clear hrx hbx
          go_wp2_with ((with_reducible refine gate_builtin (b := .append) (xs := #[.tmp 35, .tmp 36]) rfl ?_); (try (refine gate_guard (by rfl) ?_; dsimp only)); at_builtin; refine Kd.R_append_rows (Kd.int .u8) (w0 := w4) w4.heap.size rfl (.tmp 35) (.tmp 36) 30 5 (.int .u8 0) 1 rfl Tryz.underlying30 info5 rfl (by decide) (by omega) vx x p _ _ _ (fun k_ => some k_ ≠ (.slice Av p.length cv : Value).ownBlock) (fun _ => False) rfl rfl (Kd.R_mono (Kd.R_new' HX5.out (Kd.R_lt HP.out)) (fun _ hk => hk.2)) (Kd.R_reads' HP5.out).2.2 (fun _ _ h => h) (fun _ h => h.elim) (fun k_ hk => Kd.fresh' (Kd.R_lt HP5.out) k_ hk) HB5.out HB5.out.size (by have := HQ5.out; omega) ?_; intro v6 w6 ho hb hg hat; rw [← HY.out] at ho; have HP6 := Aside0.mk (Kd.R_after (ok := (fun _ => True)) (Kd.R_elder' HP.out (Kd.R_base HX5.out) HB5.out) hg hat); have HO6 := Aside0.mk ho; have HB6 := Aside0.mk hb; obtain ⟨A6, c6, e6⟩ := Kd.R_slice ho; subst e6; clear ho hb hg hat)
          refine (estreatref03_More.calls k 0 A6 c6 y sv _ (Kd.R_reads' HO6.out).2.2 (Kd.R_reads' HO6.out).2.1 HSV.out).mono ?_
          rintro e w7 ⟨rfl, ⟨nd, rfl⟩⟩
          have HX6 := Aside0.mk ((HB6.out.block _ (blk_lt HX4.out)).trans HX4.out)
          have hc1 := pw_cell_below HB6.out hc1
          have hx0 := blk_cell (blk_drewN HX6.out nd) 0
          have hx1 := blk_cell (blk_drewN HX6.out nd) 1
          have hx2 := blk_cell (blk_drewN HX6.out nd) 2
          simp only [List.getElem?_toArray] at hx0 hx1 hx2
          have hf0 := blk_frozen (blk_drewN HX6.out nd) 0
          have hf1 := blk_frozen (blk_drewN HX6.out nd) 1
          have hf2 := blk_frozen (blk_drewN HX6.out nd) 2
          have HBE := Aside0.mk (pw_below_drewN (HBW.out.trans ((HB3.out.mono HBW.out.size).trans (HB6.out.mono (by have := HBW.out.size; have := HB3.out.size; omega)))) nd)
          have h := HE.out
          by_cases q6 : sv = sm % 4294967296
          · have d6 : (sv != sm % 4294967296) = false := bne_eq_false_iff_eq.mpr q6
            rw [if_pos q6] at h
            simp only [Option.some.injEq, Prod.mk.injEq] at h
            obtain ⟨rfl, rfl, rfl⟩ := h
            clear q6
            go_wp2
            refine bodyPost_ret (v := .agg #[.slice Av p.length cv, .int .i64 t1, .int .i64 0]) (results_cell_row rfl _ _ w.heap.size 105 #[.slice Av p.length cv, .int .i64 t1, .int .i64 0] (0, 0) _ rfl (by simpa using blk_set (blk_set (blk_set (blk_drewN HX6.out nd) 0 (.slice Av p.length cv)) 1 (.int .i64 t1)) 2 (.int .i64 0)) Tryz.underlying105 rfl (by kernel_rfl)) rfl ?_
            have e0 := blk_drewN HX6.out nd
            have e1 := blk_set e0 0 (.slice Av p.length cv)
            have e2 := blk_set e1 1 (.int .i64 t1)
            have hlow : w.heap.size ≤ w3.heap.size := by have := HBW.out.size; have := HB2.out.size; omega
            exact ⟨_, rfl, Kd.R_set (Kd.R_set (Kd.R_set (Kd.R_mono (Kd.R_drewN (Kd.R_lower HP6.out hlow) nd) (fun _ _ => trivial)) e0 (by decide) 0 _) e1 (by decide) 1 _) e2 (by decide) 2 _, ((HBE.out.setCell (Nat.le_refl _) _).setCell (Nat.le_refl _) _).setCell (Nat.le_refl _) _⟩
          · have d6 : (sv != sm % 4294967296) = true := bne_iff_ne.mpr q6
            rw [if_neg q6] at h
            simp only [Option.some.injEq, Prod.mk.injEq] at h
            obtain ⟨rfl, rfl, rfl⟩ := h
            clear q6
            go_wp2
            refine bodyPost_ret (v := .agg #[.slice none 0 0, .int .i64 0, .int .i64 6]) (results_cell_row rfl _ _ w.heap.size 105 #[.slice none 0 0, .int .i64 0, .int .i64 6] (0, 0) _ rfl (by simpa using blk_set (blk_set (blk_set (blk_drewN HX6.out nd) 0 (.slice none 0 0)) 1 (.int .i64 0)) 2 (.int .i64 6)) Tryz.underlying105 rfl (by kernel_rfl)) rfl ?_
            exact ⟨_, rfl, Kd.R_nil _ _ _ _ _, ((HBE.out.setCell (Nat.le_refl _) _).setCell (Nat.le_refl _) _).setCell (Nat.le_refl _) _⟩
        · rw [if_neg q5] at h
          cases h
      · have h := H.out
        rw [if_neg q4] at h
        simp only [Option.some.injEq, Prod.mk.injEq] at h
        obtain ⟨rfl, rfl, rfl⟩ := h
        have q5 : (t2 != 0) = true := by simpa using q4
        clear q4
        go_wp2
        refine bodyPost_ret (v := .agg #[.slice none 0 0, .int .i64 0, .int .i64 2]) (results_cell_row rfl _ _ w.heap.size 105 #[.slice none 0 0, .int .i64 0, .int .i64 2] (0, 0) _ rfl (by simpa using blk_set (blk_set (blk_set HX4.out 0 (.slice none 0 0)) 1 (.int .i64 0)) 2 (.int .i64 2)) Tryz.underlying105 rfl (by kernel_rfl)) rfl ?_
        exact ⟨_, rfl, Kd.R_nil _ _ _ _ _, (((HBW.out.trans (HB3.out.mono HBW.out.size)).setCell (Nat.le_refl _) _).setCell (Nat.le_refl _) _).setCell (Nat.le_refl _) _⟩

end Go.Proofs.YtjmhiklmlgbifaaGreatDoor.PMan
end
section
-- Printed for this claim by a program of this session's own (it runs the kit's print another way): Lean checks it.
namespace Go.Proofs.YtjmhiklmlgbifaaGreatDoor.PMan
open Go.RowKit Go.Proofs.YtjmhiklmlgbifaaGreatDoorW.PrintWords Go.Proofs.YtjmhiklmlgbifaaGreatDoorW.PrintLast Go.Proofs.YtjmhiklmlgbifaaGreatDoorW.PrintMore
attribute [local go_sem] max2_int min2_int max_two min_two max_three min_three max_four min_four   -- for this text's walks alone
set_option linter.unusedVariables false
set_option linter.unusedSimpArgs false

/-! ### estreatref04_All: function 26 -/
def estreatref04_All.l0 : Nat → List Int → List (List Int) → Int → Option ((List (List Int)) × Int)
  | 0, _, _, _ => none
  | k + 1, x0, x4, x5 => if 0 ≤ x5 then (if x5 ≤ (x0.length : Int) then ((estreatref04_Get.f k (x0.drop (x5 : Int).toNat)).bind fun bt203 => (if bt203.2.2 = 0 then (if x4.length < 5864062014805 then (estreatref04_All.l0 k x0 (x4 ++ [bt203.1]) (wrap64 (x5 + bt203.2.1))) else (none)) else (some (x4, x5)))) else (none)) else (none)
def estreatref04_All.f (k : Nat) (l0 : List Int) : Option ((List (List Int)) × Int) := estreatref04_All.l0 k l0 ([] : List (List Int)) 0
theorem estreatref04_All.mono_l : ∀ k, (∀ y0 y1 y2, LeO (estreatref04_All.l0 k y0 y1 y2) (estreatref04_All.l0 (k + 1) y0 y1 y2))
  | 0 => fun _ _ _ r h => by simp [estreatref04_All.l0] at h
  | k + 1 => by
    have ih0 := estreatref04_All.mono_l k
    · intro y0 y1 y2
      unfold estreatref04_All.l0
      repeat' first
      | (with_reducible exact ih0 _ _ _)
      | (with_reducible exact estreatref04_Get.mono _ _)
      | (with_reducible exact LeO.refl _)
      | (with_reducible exact LeO.none _)
      | (with_reducible refine LeO.ite ?_ ?_)
      | (with_reducible refine LeO.bind ?_ (fun _ => ?_))
      | exact ih0 _ _ _
      | exact estreatref04_Get.mono _ _
      | exact LeO.none _
      | refine LeO.ite ?_ ?_
      | refine LeO.bind ?_ (fun _ => ?_)
theorem estreatref04_All.mono : ∀ a0 k, LeO (estreatref04_All.f k a0) (estreatref04_All.f (k + 1) a0) := by
  intro a0 k
  have ih0 := estreatref04_All.mono_l k
  unfold estreatref04_All.f
  repeat' first
      | (with_reducible exact ih0 _ _ _)
      | (with_reducible exact estreatref04_Get.mono _ _)
      | (with_reducible exact LeO.refl _)
      | (with_reducible exact LeO.none _)
      | (with_reducible refine LeO.ite ?_ ?_)
      | (with_reducible refine LeO.bind ?_ (fun _ => ?_))
      | exact ih0 _ _ _
      | exact estreatref04_Get.mono _ _
      | exact LeO.none _
      | refine LeO.ite ?_ ?_
      | refine LeO.bind ?_ (fun _ => ?_)
set_option maxHeartbeats 8000000 in
set_option maxRecDepth 100000 in
theorem estreatref04_All.calls (k : Nat) (A0 : Option Addr) (c0 : Nat) (l0 : List Int) (r1 : List (List Int)) (r2 : Int) (w : World) (hr0 : Kd.C (Kd.int .u8) w A0 l0.length l0) (hc0 : l0.length ≤ c0) (h : estreatref04_All.f k l0 = some (r1, r2)) :
    Calls Tryz.prog 26 #[.slice A0 l0.length c0] w fun e w' => ∃ v0_ : Value, e = .returned (.tuple #[v0_, .int .i64 r2]) ∧ Kd.S (Kd.slice 5 (Kd.int .u8)) 30 w' w.heap.size (fun _ => True) v0_ r1 ∧ Below w.heap.size w w' := by
  have hu105 := Tryz.underlying105
  have HR0 := Aside0.mk hr0
  have HC0 := Aside0.mk hc0
  clear hr0 hc0
  have HB := Aside0.mk (Below.refl w.heap.size w)
  have H : (estreatref04_All.l0 k l0 ([] : List (List Int)) 0) = some (r1, r2) := h
  clear h
  have H' := Aside0.mk H
  clear H
  go_enter Tryz.func26, Tryz.ntmps26
  go_wp2
  go_loopg [4, 5] k (fun kq v4 v5 w' => ∃ (x4_1 : List (List Int)) (x5_1 : Int), v5 = .int .i64 x5_1 ∧ Aside0 (estreatref04_All.l0 kq l0 x4_1 x5_1 = some (r1, r2)) ∧ Aside0 (kq ≤ k) ∧ Aside0 (Kd.S (Kd.slice 5 (Kd.int .u8)) 30 w' w.heap.size (fun _ => True) v4 x4_1) ∧ Aside0 (Below w.heap.size w w'))
  case atStart => exact ⟨(([] : List (List Int))), (0), (by first | rfl | (simp; done) | (simp [*]; done)), H', ⟨Nat.le_refl _⟩, ⟨by first | exact Kd.S_nil _ _ _ _ _ | exact Kd.N_nil _ _ _ _ _ | exact Kd.V_nil _ _ _ _ _ | exact Kd.Q_nil _ _ _ _ _ | exact Kd.R_nil _ _ _ _ _⟩, ⟨by repeat (first | (with_reducible first | exact HB.out | apply below_alloc | apply pw_below_drewN | apply below_drew1) | exact HB.out)⟩⟩
  case round =>
    clear H'
    obtain ⟨x4_1, x5_1, rfl, HA, HK1, HO_4, HB⟩ := hrel
    cases gk with
    | zero => exact absurd HA.out (by simp [estreatref04_All.l0])
    | succ k1 =>
      have H := HA.out
      clear HA
      simp only [estreatref04_All.l0] at H
      by_cases c2 : 0 ≤ x5_1
      · rw [if_pos c2] at H
        have c2b0 := eq_true c2
        have c2b1 : decide (0 ≤ x5_1) = true := decide_eq_true c2
        clear c2
        by_cases c3 : x5_1 ≤ (l0.length : Int)
        · rw [if_pos c3] at H
          have c3b0 := eq_true c3
          have c3b1 : decide (x5_1 ≤ (l0.length : Int)) = true := decide_eq_true c3
          clear c3
          replace H := Option.bind_eq_some_iff.mp H
          obtain ⟨⟨t203, t206, t207⟩, A40, H⟩ := H
          replace H : (if t207 = 0 then (if x4_1.length < 5864062014805 then (estreatref04_All.l0 k1 l0 (x4_1 ++ [t203]) (wrap64 (x5_1 + t206))) else (none)) else (some (x4_1, x5_1))) = some (r1, r2) := H
          have A4 := Aside0.mk A40
          clear A40
          by_cases c5 : t207 = 0
          · rw [if_pos c5] at H
            have c5b0 : (t207 == 0) = true := beq_iff_eq.mpr c5
            have c5b1 : (t207 != 0) = false := bne_eq_false_iff_eq.mpr c5
            clear c5
            by_cases c6 : x4_1.length < 5864062014805
            · rw [if_pos c6] at H
              have LMc6 := Aside0.mk c6
              clear c6
              obtain ⟨y209, hy209⟩ : ∃ y_ : List (List Int), y_ = (x4_1 ++ [t203]) := ⟨_, rfl⟩
              replace H : (estreatref04_All.l0 k1 l0 y209 (wrap64 (x5_1 + t206))) = some (r1, r2) := by first | (rw [hy209]; with_reducible exact H) | (have H2_ := (Option.bind_some _ _).symm.trans H; rw [hy209]; with_reducible exact H2_) | (have H2_ := (Option.bind_some _ _).symm.trans H; with_reducible exact H2_) | with_reducible exact H | (rw [hy209]; exact H) | exact H
              have Ny209 := Aside0.mk hy209
              clear hy209
              have H' := Aside0.mk H
              clear H
              obtain ⟨i07, hi07, _, hsz7, _⟩ := info_parts info5
              obtain ⟨A7, hcut7, hA7, hC7⟩ := print_drop_of (P := Tryz.prog) (Value.int .u8) 0 30 5 .i64 Tryz.underlying30 hi07 hsz7 A0 c0 l0 x5_1 (of_decide_eq_true (by first | (with_reducible assumption) | assumption)) (of_decide_eq_true (by first | (with_reducible assumption) | assumption)) HC0.out
              have HR202 := Aside0.mk (Kd.C_of_reads (h1 := fun _ => rfl) (hA7 _ (Kd.reads_of_C HR0.out)))
              have HC202 := Aside0.mk hC7
              clear hA7 hC7 hi07 hsz7
              go_wp2_with (first | ((with_reducible refine gate_callee (f := 56) rfl ?_); refine goesL_ (some 10) rfl rfl Tryz.func56 (by kernel_rfl) rfl #[.slice A7 (l0.drop (x5_1 : Int).toNat).length (c0 - x5_1.toNat)] rfl (by (try simp only [List.map_toArray, List.map_cons, List.map_nil]); first | done | (rw [show (l0.drop (x5_1 : Int).toNat).length = (l0.length - x5_1.toNat) from List.length_drop] <;> rfl) | rfl | (simp only [List.length_drop, List.length_take]; rfl)) ?_; (with_reducible refine (estreatref04_Get.calls k1 _ _ (l0.drop (x5_1 : Int).toNat) t203 t206 t207 _ ?side1 ?side2 A4.out).mono ?_); (case side1 => repeat (first | exact (Kd.C_below HR202.out HB.out) | (with_reducible refine Kd.C_alloc ?_ _) | (with_reducible refine Kd.C_drewN ?_ _) | (with_reducible refine Kd.C_drew ?_))); (case side2 => exact HC202.out); rintro e w8 ⟨v204, rfl, ho0, hb⟩; refine ⟨_, rfl, ?_⟩; have n0_ := Aside0.mk (Kd.S_elder' (by (with_reducible repeat (first | apply Kd.S_alloc | apply Kd.S_drewN | apply Kd.S_drew)); exact HO_4.out) (Kd.R_base ho0) hb); have n1_ := Aside0.mk (Kd.R_lower ho0 (below_size (by repeat (first | (with_reducible first | exact HB.out | apply below_alloc | apply pw_below_drewN | apply below_drew1) | exact HB.out)))); have n2_ := Aside0.mk (below_step (by repeat (first | (with_reducible first | exact HB.out | apply below_alloc | apply pw_below_drewN | apply below_drew1) | exact HB.out)) hb); clear HO_4; clear HB; have HO_4 := n0_; have HO205 := n1_; have HB := n2_; clear n0_ n1_ n2_; (try clear hb); (try clear hb2); (try clear hk); (try clear hi); (try clear ho0)) | ((with_reducible refine gate_dst (N := 6) rfl ?_); refine box_event ?hg (N := 6) ?hd (cs := #[.slice none 0 0, .int .i64 0, .int .i64 0]) (t := 105) ?hr ?_; (case hd => rfl); (case hg => rfl); (case hr => first | (go_simp; done) | (go_simp; rfl)); intro gb208 hg w9 hbox hb; have n0_ := Aside0.mk (Kd.S_below (by (with_reducible repeat (first | apply Kd.S_alloc | apply Kd.S_drewN | apply Kd.S_drew)); exact HO_4.out) hb); have n1_ := Aside0.mk (Kd.R_below (by (with_reducible repeat (first | apply Kd.R_alloc | apply Kd.R_drewN | apply Kd.R_drew)); exact HO205.out) hb); have n2_ := Aside0.mk (below_step (by repeat (first | (with_reducible first | exact HB.out | apply below_alloc | apply pw_below_drewN | apply below_drew1) | exact HB.out)) hb); have n3_ := Aside0.mk (hbox); have n4_ := Aside0.mk ((by rw [hg]; exact (below_size (by repeat (first | (with_reducible first | exact HB.out | apply below_alloc | apply pw_below_drewN | apply below_drew1) | exact HB.out))) : w.heap.size ≤ gb208)); have n5_ := Aside0.mk ((by rw [hg]; exact (below_size (by repeat (first | (with_reducible first | exact HB.out | apply below_alloc | apply pw_below_drewN | apply below_drew1) | exact HB.out))) : w.heap.size ≤ gb208)); clear HO_4; clear HO205; clear HB; have HO_4 := n0_; have HO205 := n1_; have HB := n2_; have BK208 := n3_; have GW208 := n4_; have GE208 := n5_; clear n0_ n1_ n2_ n3_ n4_ n5_; clear hb hbox hg; obtain ⟨Ao10, co10, eo10⟩ := Kd.R_slice HO205.out; subst eo10; have hcz11_0 : w9.cell? ⟨gb208, 0, none⟩ = some (.slice none 0 0) := (blk_cell BK208.out 0).trans rfl; have hcz11_1 : w9.cell? ⟨gb208, 1, none⟩ = some (.int .i64 0) := (blk_cell BK208.out 1).trans rfl; have hcz11_2 : w9.cell? ⟨gb208, 2, none⟩ = some (.int .i64 0) := (blk_cell BK208.out 2).trans rfl; have hfz11_0 := blk_frozen BK208.out 0; have hfz11_1 := blk_frozen BK208.out 1; have hfz11_2 := blk_frozen BK208.out 2) | ((with_reducible refine gate_store (t := 105) (p := 6) rfl ?_); refine store_event (t := 105) (p := 6) (v := ?vo_w12) (w1 := (((w9.setCell ⟨gb208, 0, none⟩ (.slice Ao10 t203.length co10)).setCell ⟨gb208, 1, none⟩ (.int .i64 t206)).setCell ⟨gb208, 2, none⟩ (.int .i64 t207))) ?hg ?ho ?hn ?hr ?_; (case ho => rfl); (case hg => rfl); (case hn => rfl); (case hr => first | (go_simp; done) | (go_simp; rfl)); intro w12 hw; have n0_ : Aside0 (Kd.S (Kd.slice 5 (Kd.int .u8)) 30 w12 w.heap.size (fun k_ => some k_ ≠ (.slice Ao10 t203.length co10 : Value).ownBlock) u4 x4_1) := ⟨(by rw [hw]; exact (by (with_reducible repeat (first | apply Kd.S_alloc | apply Kd.S_drewN | apply Kd.S_drew)); exact Kd.S_mono (Kd.S_far (p := ⟨gb208, 2, none⟩) (Kd.S_far (p := ⟨gb208, 1, none⟩) (Kd.S_far (p := ⟨gb208, 0, none⟩) (Kd.S_types HO_4.out BK208.out (by decide)) (fun _ hk => hk.2) (.slice Ao10 t203.length co10)) (fun _ hk => hk.2) (.int .i64 t206)) (fun _ hk => hk.2) (.int .i64 t207)) (fun _ hk => hk.1.2)))⟩; have n1_ : Aside0 (Kd.R (Kd.int .u8) 5 w12 w.heap.size (fun _ => True) (.slice Ao10 t203.length co10) t203) := ⟨(by rw [hw]; exact (by (with_reducible repeat (first | apply Kd.R_alloc | apply Kd.R_drewN | apply Kd.R_drew)); exact Kd.R_mono (Kd.R_far (p := ⟨gb208, 2, none⟩) (Kd.R_far (p := ⟨gb208, 1, none⟩) (Kd.R_far (p := ⟨gb208, 0, none⟩) (Kd.R_types HO205.out BK208.out (by decide)) (fun _ hk => hk.2) (.slice Ao10 t203.length co10)) (fun _ hk => hk.2) (.int .i64 t206)) (fun _ hk => hk.2) (.int .i64 t207)) (fun _ hk => trivial)))⟩; have n2_ : Aside0 (w12.heap[gb208]? = some (.cells #[.slice Ao10 t203.length co10, .int .i64 t206, .int .i64 t207] 105 (0, 0))) := ⟨(by rw [hw]; exact (by (with_reducible repeat (first | refine blk_drewN ?_ _ | refine blk_drew ?_ | refine blk_alloc ?_ _)); refine blk_put (cs := #[.slice Ao10 t203.length co10, .int .i64 t206, .int .i64 0]) ?_ 2 _ rfl; (with_reducible repeat (first | refine blk_drewN ?_ _ | refine blk_drew ?_ | refine blk_alloc ?_ _)); refine blk_put (cs := #[.slice Ao10 t203.length co10, .int .i64 0, .int .i64 0]) ?_ 1 _ rfl; (with_reducible repeat (first | refine blk_drewN ?_ _ | refine blk_drew ?_ | refine blk_alloc ?_ _)); refine blk_put (cs := #[.slice none 0 0, .int .i64 0, .int .i64 0]) ?_ 0 _ rfl; (with_reducible repeat (first | refine blk_drewN ?_ _ | refine blk_drew ?_ | refine blk_alloc ?_ _)); exact BK208.out))⟩; have n3_ : Aside0 (Below w.heap.size w w12) := ⟨(by rw [hw]; exact (by repeat (first | (with_reducible first | exact HB.out | apply below_alloc | apply pw_below_drewN | apply below_drew1 | refine below_set ?_ GE208.out) | exact HB.out)))⟩; clear hw; clear HO_4; clear HO205; clear BK208; clear HB; have HO_4 := n0_; have HO205 := n1_; have BK208 := n2_; have HB := n3_; clear n0_ n1_ n2_ n3_; have hcz13_0 : w12.cell? ⟨gb208, 0, none⟩ = some (.slice Ao10 t203.length co10) := (blk_cell BK208.out 0).trans rfl; have hcz13_1 : w12.cell? ⟨gb208, 1, none⟩ = some (.int .i64 t206) := (blk_cell BK208.out 1).trans rfl; have hcz13_2 : w12.cell? ⟨gb208, 2, none⟩ = some (.int .i64 t207) := (blk_cell BK208.out 2).trans rfl; have hfz13_0 := blk_frozen BK208.out 0; have hfz13_1 := blk_frozen BK208.out 1; have hfz13_2 := blk_frozen BK208.out 2) | ((with_reducible refine gate_builtin (b := .append) (xs := #[.tmp 16, .tmp 19]) rfl ?_); at_builtin; refine Kd.S_append (Kd.slice 5 (Kd.int .u8)) (w0 := w) w.heap.size rfl (.tmp 16) (.tmp 19) 50 30 (.slice none 0 0) 24 rfl Tryz.underlying50 info30 rfl (by decide) (by omega) u4 x4_1 t203 [.slice Ao10 t203.length co10] (fun _ => True) (fun k_ => some k_ = (.slice Ao10 t203.length co10 : Value).ownBlock) rfl rfl ?aP (fun k_ hk_ => ((Kd.R_mono (ok' := fun k_ => ((fun _ => True)) k_ ∧ some k_ ≠ (u4 : Value).ownBlock) (Kd.R_apart' (HO205.out) (Kd.S_typed HO_4.out) (by decide)) (fun k_ hk => ⟨trivial, hk.2⟩))).1 k_ hk_.symm) ?aF ?aO ?aB ?aS ?aL ?_; (case aP => exact Kd.M_row (Kd.R_mono (Kd.R_tight rfl (Kd.R_mono (ok' := fun k_ => ((fun _ => True)) k_ ∧ some k_ ≠ (u4 : Value).ownBlock) (Kd.R_apart' (HO205.out) (Kd.S_typed HO_4.out) (by decide)) (fun k_ hk => ⟨trivial, hk.2⟩))) (fun _ h_ => h_))); (case aB => exact (by repeat (first | (with_reducible first | exact HB.out | apply below_alloc | apply pw_below_drewN | apply below_drew1 | refine below_set ?_ GE208.out) | exact HB.out))); (case aF => exact (fun _ _ => trivial)); (case aO => exact (by (with_reducible repeat (first | apply Kd.S_alloc | apply Kd.S_drewN | apply Kd.S_drew)); exact Kd.S_mono HO_4.out (fun k_ hk => ⟨trivial, fun e_ => hk e_⟩))); (case aS => exact (below_size (by repeat (first | (with_reducible first | exact HB.out | apply below_alloc | apply pw_below_drewN | apply below_drew1 | refine below_set ?_ GE208.out) | exact HB.out)))); (case aL => have := LMc6.out; omega); intro v210 w14 ho hb hg hat; rw [← Ny209.out] at ho; have n0_ := Aside0.mk (blk_grown (g := gb208) (o := .cells #[.slice Ao10 t203.length co10, .int .i64 t206, .int .i64 t207] 105 (0, 0)) (by (with_reducible repeat (first | refine blk_drewN ?_ _ | refine blk_drew ?_ | refine blk_alloc ?_ _)); exact BK208.out) hg (Kd.S_ne HO_4.out BK208.out (by decide))); have n1_ := Aside0.mk (hb); have n2_ := Aside0.mk (ho); clear BK208; clear HB; clear HO_4; clear HO205; have BK208 := n0_; have HB := n1_; have HO211 := n2_; clear n0_ n1_ n2_; clear ho hb hg hat; have hcz15_0 : w14.cell? ⟨gb208, 0, none⟩ = some (.slice Ao10 t203.length co10) := (blk_cell BK208.out 0).trans rfl; have hcz15_1 : w14.cell? ⟨gb208, 1, none⟩ = some (.int .i64 t206) := (blk_cell BK208.out 1).trans rfl; have hcz15_2 : w14.cell? ⟨gb208, 2, none⟩ = some (.int .i64 t207) := (blk_cell BK208.out 2).trans rfl; have hfz15_0 := blk_frozen BK208.out 0; have hfz15_1 := blk_frozen BK208.out 1; have hfz15_2 := blk_frozen BK208.out 2))
              go_roundg k1
              case measure => have := HK1.out; omega
              case rel => exact ⟨(y209), (wrap64 (x5_1 + t206)), (by first | rfl | (simp; done) | (simp [*]; done)), H', ⟨by have := HK1.out; omega⟩, ⟨by (with_reducible repeat (first | apply Kd.S_alloc | apply Kd.S_drewN | apply Kd.S_drew)); exact HO211.out⟩, ⟨by repeat (first | (with_reducible first | exact HB.out | apply below_alloc | apply pw_below_drewN | apply below_drew1 | refine below_set ?_ GE208.out) | exact HB.out)⟩⟩
            · rw [if_neg c6] at H
              exact absurd H (by simp)
          · rw [if_neg c5] at H
            have c5b0 : (t207 == 0) = false := beq_eq_false_iff_ne.mpr c5
            have c5b1 : (t207 != 0) = true := bne_iff_ne.mpr c5
            simp only [Option.some.injEq, Prod.mk.injEq] at H
            obtain ⟨rfl, rfl⟩ := H
            obtain ⟨i016, hi016, _, hsz16, _⟩ := info_parts info5
            obtain ⟨A16, hcut16, hA16, hC16⟩ := print_drop_of (P := Tryz.prog) (Value.int .u8) 0 30 5 .i64 Tryz.underlying30 hi016 hsz16 A0 c0 l0 x5_1 (of_decide_eq_true (by first | (with_reducible assumption) | assumption)) (of_decide_eq_true (by first | (with_reducible assumption) | assumption)) HC0.out
            have HR202 := Aside0.mk (Kd.C_of_reads (h1 := fun _ => rfl) (hA16 _ (Kd.reads_of_C HR0.out)))
            have HC202 := Aside0.mk hC16
            clear hA16 hC16 hi016 hsz16
            go_wp2_with (first | ((with_reducible refine gate_callee (f := 56) rfl ?_); refine goesL_ (some 10) rfl rfl Tryz.func56 (by kernel_rfl) rfl #[.slice A16 (l0.drop (x5_1 : Int).toNat).length (c0 - x5_1.toNat)] rfl (by (try simp only [List.map_toArray, List.map_cons, List.map_nil]); first | done | (rw [show (l0.drop (x5_1 : Int).toNat).length = (l0.length - x5_1.toNat) from List.length_drop] <;> rfl) | rfl | (simp only [List.length_drop, List.length_take]; rfl)) ?_; (with_reducible refine (estreatref04_Get.calls k1 _ _ (l0.drop (x5_1 : Int).toNat) t203 t206 t207 _ ?side1 ?side2 A4.out).mono ?_); (case side1 => repeat (first | exact (Kd.C_below HR202.out HB.out) | (with_reducible refine Kd.C_alloc ?_ _) | (with_reducible refine Kd.C_drewN ?_ _) | (with_reducible refine Kd.C_drew ?_))); (case side2 => exact HC202.out); rintro e w17 ⟨v204, rfl, ho0, hb⟩; refine ⟨_, rfl, ?_⟩; have n0_ := Aside0.mk (Kd.S_elder' (by (with_reducible repeat (first | apply Kd.S_alloc | apply Kd.S_drewN | apply Kd.S_drew)); exact HO_4.out) (Kd.R_base ho0) hb); have n1_ := Aside0.mk (Kd.R_lower ho0 (below_size (by repeat (first | (with_reducible first | exact HB.out | apply below_alloc | apply pw_below_drewN | apply below_drew1) | exact HB.out)))); have n2_ := Aside0.mk (below_step (by repeat (first | (with_reducible first | exact HB.out | apply below_alloc | apply pw_below_drewN | apply below_drew1) | exact HB.out)) hb); clear HO_4; clear HB; have HO_4 := n0_; have HO205 := n1_; have HB := n2_; clear n0_ n1_ n2_; (try clear hb); (try clear hb2); (try clear hk); (try clear hi); (try clear ho0)) | ((with_reducible refine gate_dst (N := 6) rfl ?_); refine box_event ?hg (N := 6) ?hd (cs := #[.slice none 0 0, .int .i64 0, .int .i64 0]) (t := 105) ?hr ?_; (case hd => rfl); (case hg => rfl); (case hr => first | (go_simp; done) | (go_simp; rfl)); intro gb208 hg w18 hbox hb; have n0_ := Aside0.mk (Kd.S_below (by (with_reducible repeat (first | apply Kd.S_alloc | apply Kd.S_drewN | apply Kd.S_drew)); exact HO_4.out) hb); have n1_ := Aside0.mk (Kd.R_below (by (with_reducible repeat (first | apply Kd.R_alloc | apply Kd.R_drewN | apply Kd.R_drew)); exact HO205.out) hb); have n2_ := Aside0.mk (below_step (by repeat (first | (with_reducible first | exact HB.out | apply below_alloc | apply pw_below_drewN | apply below_drew1) | exact HB.out)) hb); have n3_ := Aside0.mk (hbox); have n4_ := Aside0.mk ((by rw [hg]; exact (below_size (by repeat (first | (with_reducible first | exact HB.out | apply below_alloc | apply pw_below_drewN | apply below_drew1) | exact HB.out))) : w.heap.size ≤ gb208)); have n5_ := Aside0.mk ((by rw [hg]; exact (below_size (by repeat (first | (with_reducible first | exact HB.out | apply below_alloc | apply pw_below_drewN | apply below_drew1) | exact HB.out))) : w.heap.size ≤ gb208)); clear HO_4; clear HO205; clear HB; have HO_4 := n0_; have HO205 := n1_; have HB := n2_; have BK208 := n3_; have GW208 := n4_; have GE208 := n5_; clear n0_ n1_ n2_ n3_ n4_ n5_; clear hb hbox hg; obtain ⟨Ao19, co19, eo19⟩ := Kd.R_slice HO205.out; subst eo19; have hcz20_0 : w18.cell? ⟨gb208, 0, none⟩ = some (.slice none 0 0) := (blk_cell BK208.out 0).trans rfl; have hcz20_1 : w18.cell? ⟨gb208, 1, none⟩ = some (.int .i64 0) := (blk_cell BK208.out 1).trans rfl; have hcz20_2 : w18.cell? ⟨gb208, 2, none⟩ = some (.int .i64 0) := (blk_cell BK208.out 2).trans rfl; have hfz20_0 := blk_frozen BK208.out 0; have hfz20_1 := blk_frozen BK208.out 1; have hfz20_2 := blk_frozen BK208.out 2))
            go_ret2
            exact ⟨_, by first | rfl | (simp [errW_none, errW_some] <;> rfl) | (simp [*, errW_none, errW_some] <;> rfl), by (with_reducible repeat (first | apply Kd.S_alloc | apply Kd.S_drewN | apply Kd.S_drew)); exact Kd.S_mono (Kd.S_far (p := ⟨gb208, 2, none⟩) (Kd.S_far (p := ⟨gb208, 1, none⟩) (Kd.S_far (p := ⟨gb208, 0, none⟩) (Kd.S_types HO_4.out BK208.out (by decide)) (fun _ hk => hk.2) (.slice Ao19 t203.length co19)) (fun _ hk => hk.2) (.int .i64 t206)) (fun _ hk => hk.2) (.int .i64 t207)) (fun _ hk => trivial), by repeat (first | (with_reducible first | exact HB.out | apply below_alloc | apply pw_below_drewN | apply below_drew1 | refine below_set ?_ GE208.out) | exact HB.out)⟩
        · rw [if_neg c3] at H
          exact absurd H (by simp)
      · rw [if_neg c2] at H
        exact absurd H (by simp)

-- NOT PRINTED: function 7 (estreatlaw26_ManifestChunks)

-- NOT PRINTED: function 6 (estreatlaw26_ManifestNames)

end Go.Proofs.YtjmhiklmlgbifaaGreatDoor.PMan
end

/- Texts of this proof, put into one, without what it does not use: PManx6, ManD, ManF, ManG. -/
import Derived.Test.YtjmhiklmlgbifaaGreatDoorPU3
import Derived.Test.YtjmhiklmlgbifaaGreatDoorPU13
import Derived.Outline
import Derived.Test.YtjmhiklmlgbifaaGreatDoorPU12
import Derived.Laws.CopyRow
import Derived.Laws.IdiomCopy
section
namespace Go.Proofs.YtjmhiklmlgbifaaGreatDoor.PMan
open Go.RowKit Go.Proofs.YtjmhiklmlgbifaaGreatDoorW.PrintWords Go.Proofs.YtjmhiklmlgbifaaGreatDoorW.PrintLast Go.Proofs.YtjmhiklmlgbifaaGreatDoorW.PrintMore
attribute [local go_sem] max2_int min2_int max_two min_two max_three min_three max_four min_four   -- for this text's walks alone
set_option linter.unusedVariables false
set_option linter.unusedSimpArgs false
def value_PutSchema.l0 : Nat → List Int → List (S123) → Int → Int → Option (List Int)
  | 0, _, _, _, _ => none
  | k + 1, x3, x11, x12, x13 => if x13 < x12 then (if 0 ≤ x13 then (if x13 < (x11.length : Int) then (if (rd_T123 x11 x13).f1 = true then ((some (([((rd_T123 x11 x13).f0) % 256, 1, (wrap64 (((rd_T123 x11 x13).f2) + 1)) % 256] : List Int) : List Int)).bind fun y119 => (if x3.length + y119.length < 140737488355328 then (value_PutSchema.l0 k (x3 ++ y119) x11 x12 (wrap64 (x13 + 1))) else (none))) else ((some (([((rd_T123 x11 x13).f0) % 256, 0, (wrap64 (((rd_T123 x11 x13).f2) + 1)) % 256] : List Int) : List Int)).bind fun y125 => (if x3.length + y125.length < 140737488355328 then (value_PutSchema.l0 k (x3 ++ y125) x11 x12 (wrap64 (x13 + 1))) else (none)))) else (none)) else (none)) else (some x3)
def value_PutSchema.f (k : Nat) (l0 : List (S123)) : Option (List Int) := value_PutSchema.l0 k (([((l0.length : Int)) % 256] : List Int)) l0 (l0.length : Int) 0
theorem value_PutSchema.mono_l : ∀ k, (∀ y0 y1 y2 y3, LeO (value_PutSchema.l0 k y0 y1 y2 y3) (value_PutSchema.l0 (k + 1) y0 y1 y2 y3))
  | 0 => fun _ _ _ _ r h => by simp [value_PutSchema.l0] at h
  | k + 1 => by
    have ih0 := value_PutSchema.mono_l k
    · intro y0 y1 y2 y3
      unfold value_PutSchema.l0
      repeat' first
      | (with_reducible exact ih0 _ _ _ _)
      | (with_reducible exact LeO.refl _)
      | (with_reducible exact LeO.none _)
      | (with_reducible refine LeO.ite ?_ ?_)
      | (with_reducible refine LeO.bind ?_ (fun _ => ?_))
      | exact ih0 _ _ _ _
      | exact LeO.none _
      | refine LeO.ite ?_ ?_
      | refine LeO.bind ?_ (fun _ => ?_)
theorem value_PutSchema.mono : ∀ a0 k, LeO (value_PutSchema.f k a0) (value_PutSchema.f (k + 1) a0) := by
  intro a0 k
  have ih0 := value_PutSchema.mono_l k
  unfold value_PutSchema.f
  repeat' first
      | (with_reducible exact ih0 _ _ _ _)
      | (with_reducible exact LeO.refl _)
      | (with_reducible exact LeO.none _)
      | (with_reducible refine LeO.ite ?_ ?_)
      | (with_reducible refine LeO.bind ?_ (fun _ => ?_))
      | exact ih0 _ _ _ _
      | exact LeO.none _
      | refine LeO.ite ?_ ?_
      | refine LeO.bind ?_ (fun _ => ?_)
set_option maxHeartbeats 8000000 in
set_option maxRecDepth 100000 in
theorem value_PutSchema.calls (k : Nat) (A0 : Option Addr) (c0 : Nat) (l0 : List (S123)) (r : List Int) (w : World) (hr0 : Kd.C k123 w A0 l0.length l0) (hc0 : l0.length ≤ c0) (h : value_PutSchema.f k l0 = some r) :
    Calls Tryz.prog 30 #[.slice A0 l0.length c0] w fun e w' => ∃ v0_ : Value, e = .returned (v0_) ∧ Kd.R (Kd.int .u8) 5 w' w.heap.size (fun _ => True) v0_ r ∧ Below w.heap.size w w' := by
  have hu123 := Tryz.underlying123
  have HR0 := Aside0.mk hr0
  have HC0 := Aside0.mk hc0
  clear hr0 hc0
  have HB := Aside0.mk (Below.refl w.heap.size w)
  have H : (value_PutSchema.l0 k (([((l0.length : Int)) % 256] : List Int)) l0 (l0.length : Int) 0) = some r := h
  clear h
  obtain ⟨y114, hy114⟩ : ∃ y_ : List Int, y_ = (([((l0.length : Int)) % 256] : List Int)) := ⟨_, rfl⟩
  replace H : (value_PutSchema.l0 k y114 l0 (l0.length : Int) 0) = some r := by first | (rw [hy114]; with_reducible exact H) | (have H2_ := (Option.bind_some _ _).symm.trans H; rw [hy114]; with_reducible exact H2_) | (have H2_ := (Option.bind_some _ _).symm.trans H; with_reducible exact H2_) | with_reducible exact H | (rw [hy114]; exact H) | exact H
  have Ny114 := Aside0.mk hy114
  clear hy114
  have H' := Aside0.mk H
  clear H
  go_enter Tryz.func30, Tryz.ntmps30
  go_wp2_with (first | ((with_reducible refine gate_dst (N := 10) rfl ?_); refine Kd.R_lit (Kd.int .u8) _ 5 ?hg (N := 10) ?hd (xs := ([((l0.length : Int)) % 256] : List Int)) (inner := [.int .u8 (((l0.length : Int)) % 256)]) (ok := fun _ => True) (okp := fun _ => True) ?hr ?hp (fun _ hk => hk) trivial (Below.refl _ _) (Nat.le_refl _) (by simp) ?_; (case hd => rfl); (case hg => rfl); (case hr => first | (go_simp; done) | (go_simp; rfl)); (case hp => exact (Reps.one (show Kd.M (Kd.int .u8) _ _ _ (((l0.length : Int)) % 256) [.int .u8 (((l0.length : Int)) % 256)] from rfl) (Reps.none _ _))); intro v115 w2 ho3 hb hg_ hnew_; clear hg_ hnew_; (first | rw [← Ny114.out] at ho3 | (simp only [Int.reduceToNat] at ho3; rw [← Ny114.out] at ho3)); have n0_ := Aside0.mk (Kd.R_lower ho3 (below_size (by repeat (first | (with_reducible first | exact HB.out | apply below_alloc | apply pw_below_drewN | apply below_drew1) | exact HB.out)))); have n1_ := Aside0.mk (below_step (by repeat (first | (with_reducible first | exact HB.out | apply below_alloc | apply pw_below_drewN | apply below_drew1) | exact HB.out)) hb); clear HB; have HO116 := n0_; have HB := n1_; clear n0_ n1_; clear hb ho3))
  go_loopg [3, 13] k (fun kq v3 v13 w' => ∃ (x3_1 : List Int) (x13_1 : Int), v13 = .int .i64 x13_1 ∧ Aside0 (value_PutSchema.l0 kq x3_1 l0 (l0.length : Int) x13_1 = some r) ∧ Aside0 (kq ≤ k) ∧ Aside0 (Kd.R (Kd.int .u8) 5 w' w.heap.size (fun _ => True) v3 x3_1) ∧ Aside0 (Below w.heap.size w w'))
  case atStart => exact ⟨(y114), (0), (by first | rfl | (simp; done) | (simp [*]; done)), H', ⟨Nat.le_refl _⟩, ⟨by (with_reducible repeat (first | apply Kd.R_alloc | apply Kd.R_drewN | apply Kd.R_drew)); exact HO116.out⟩, ⟨by repeat (first | (with_reducible first | exact HB.out | apply below_alloc | apply pw_below_drewN | apply below_drew1) | exact HB.out)⟩⟩
  case round =>
    clear H'
    try clear p2
    try clear c3
    obtain ⟨x3_1, x13_1, rfl, HA, HK1, HO_3, HB⟩ := hrel
    cases gk with
    | zero => exact absurd HA.out (by simp [value_PutSchema.l0])
    | succ k1 =>
      have H := HA.out
      clear HA
      simp only [value_PutSchema.l0] at H
      by_cases c4 : x13_1 < (l0.length : Int)
      · rw [if_pos c4] at H
        have c4b0 : decide (x13_1 < (l0.length : Int)) = true := decide_eq_true c4
        clear c4
        by_cases c5 : 0 ≤ x13_1
        · rw [if_pos c5] at H
          have c5b0 : decide (0 ≤ x13_1) = true := decide_eq_true c5
          clear c5
          by_cases c6 : x13_1 < (l0.length : Int)
          · rw [if_pos c6] at H
            have c6b0 : decide (x13_1 < (l0.length : Int)) = true := decide_eq_true c6
            clear c6
            obtain ⟨bq7, hbq7⟩ : ∃ b_ : Bool, b_ = ((rd_T123 l0 x13_1).f1) := ⟨_, rfl⟩
            replace H : (if bq7 = true then ((some (([((rd_T123 l0 x13_1).f0) % 256, 1, (wrap64 (((rd_T123 l0 x13_1).f2) + 1)) % 256] : List Int) : List Int)).bind fun y119 => (if x3_1.length + y119.length < 140737488355328 then (value_PutSchema.l0 k1 (x3_1 ++ y119) l0 (l0.length : Int) (wrap64 (x13_1 + 1))) else (none))) else ((some (([((rd_T123 l0 x13_1).f0) % 256, 0, (wrap64 (((rd_T123 l0 x13_1).f2) + 1)) % 256] : List Int) : List Int)).bind fun y125 => (if x3_1.length + y125.length < 140737488355328 then (value_PutSchema.l0 k1 (x3_1 ++ y125) l0 (l0.length : Int) (wrap64 (x13_1 + 1))) else (none)))) = some r := by rw [← hbq7] at H; exact H
            have Nbq7 := Aside0.mk hbq7
            clear hbq7
            by_cases c8 : bq7 = true
            · subst c8
              have H1 : ((some (([((rd_T123 l0 x13_1).f0) % 256, 1, (wrap64 (((rd_T123 l0 x13_1).f2) + 1)) % 256] : List Int) : List Int)).bind fun y119 => (if x3_1.length + y119.length < 140737488355328 then (value_PutSchema.l0 k1 (x3_1 ++ y119) l0 (l0.length : Int) (wrap64 (x13_1 + 1))) else (none))) = some r := by rw [if_pos rfl] at H; exact H
              clear H
              have H := H1
              clear H1
              obtain ⟨y119, hy119⟩ : ∃ y_ : List Int, y_ = (([((rd_T123 l0 x13_1).f0) % 256, 1, (wrap64 (((rd_T123 l0 x13_1).f2) + 1)) % 256] : List Int)) := ⟨_, rfl⟩
              replace H : (if x3_1.length + y119.length < 140737488355328 then (value_PutSchema.l0 k1 (x3_1 ++ y119) l0 (l0.length : Int) (wrap64 (x13_1 + 1))) else (none)) = some r := by first | (rw [hy119]; with_reducible exact H) | (have H2_ := (Option.bind_some _ _).symm.trans H; rw [hy119]; with_reducible exact H2_) | (have H2_ := (Option.bind_some _ _).symm.trans H; with_reducible exact H2_) | with_reducible exact H | (rw [hy119]; exact H) | exact H
              have Ny119 := Aside0.mk hy119
              clear hy119
              by_cases c9 : x3_1.length + y119.length < 140737488355328
              · rw [if_pos c9] at H
                have LMc9 := Aside0.mk c9
                clear c9
                obtain ⟨y122, hy122⟩ : ∃ y_ : List Int, y_ = (x3_1 ++ y119) := ⟨_, rfl⟩
                replace H : (value_PutSchema.l0 k1 y122 l0 (l0.length : Int) (wrap64 (x13_1 + 1))) = some r := by first | (rw [hy122]; with_reducible exact H) | (have H2_ := (Option.bind_some _ _).symm.trans H; rw [hy122]; with_reducible exact H2_) | (have H2_ := (Option.bind_some _ _).symm.trans H; with_reducible exact H2_) | with_reducible exact H | (rw [hy122]; exact H) | exact H
                have Ny122 := Aside0.mk hy122
                clear hy122
                have H' := Aside0.mk H
                clear H
                have p117 : 0 ≤ (x13_1 : Int) := of_decide_eq_true (by first | (with_reducible assumption) | assumption)
                have q117 : x13_1 < (l0.length : Int) := of_decide_eq_true (by first | (with_reducible assumption) | assumption)
                obtain ⟨ad117, e117, hx117_0, hx117_1, hx117_2⟩ := at_T123 HR0.out x13_1 p117 q117
                (try rw [← Nbq7.out] at hx117_1)
                cases e117
                replace hx117_0 := (HB.out.cell (World.block_lt_of_cell? w _ hx117_0)).trans hx117_0
                replace hx117_1 := (HB.out.cell (World.block_lt_of_cell? w _ hx117_1)).trans hx117_1
                replace hx117_2 := (HB.out.cell (World.block_lt_of_cell? w _ hx117_2)).trans hx117_2
                replace p117 := eq_true p117
                replace q117 := eq_true q117
                go_wp2_with (first | ((with_reducible refine gate_dst (N := 5) rfl ?_); refine box_event ?hg (N := 5) ?hd (cs := #[.int .i64 0, .bool false, .int .i64 0]) (t := 123) ?hr ?_; (case hd => rfl); (case hg => rfl); (case hr => first | (go_simp; done) | (go_simp; rfl)); intro gb118 hg w10 hbox hb; have n0_ := Aside0.mk (Kd.R_below (by (with_reducible repeat (first | apply Kd.R_alloc | apply Kd.R_drewN | apply Kd.R_drew)); exact HO_3.out) hb); have n1_ := Aside0.mk (below_step (by repeat (first | (with_reducible first | exact HB.out | apply below_alloc | apply pw_below_drewN | apply below_drew1) | exact HB.out)) hb); have n2_ := Aside0.mk (hbox); have n3_ := Aside0.mk ((by rw [hg]; exact (below_size (by repeat (first | (with_reducible first | exact HB.out | apply below_alloc | apply pw_below_drewN | apply below_drew1) | exact HB.out))) : w.heap.size ≤ gb118)); have n4_ := Aside0.mk ((by rw [hg]; exact (below_size (by repeat (first | (with_reducible first | exact HB.out | apply below_alloc | apply pw_below_drewN | apply below_drew1) | exact HB.out))) : w.heap.size ≤ gb118)); clear HO_3; clear HB; have HO_3 := n0_; have HB := n1_; have BK118 := n2_; have GW118 := n3_; have GE118 := n4_; clear n0_ n1_ n2_ n3_ n4_; clear hb hbox hg; have hcz11_0 : w10.cell? ⟨gb118, 0, none⟩ = some (.int .i64 0) := (blk_cell BK118.out 0).trans rfl; have hcz11_1 : w10.cell? ⟨gb118, 1, none⟩ = some (.bool false) := (blk_cell BK118.out 1).trans rfl; have hcz11_2 : w10.cell? ⟨gb118, 2, none⟩ = some (.int .i64 0) := (blk_cell BK118.out 2).trans rfl; have hfz11_0 := blk_frozen BK118.out 0; have hfz11_1 := blk_frozen BK118.out 1; have hfz11_2 := blk_frozen BK118.out 2) | ((with_reducible refine gate_dst (N := 28) rfl ?_); refine Kd.R_lit (Kd.int .u8) _ 5 ?hg (N := 28) ?hd (xs := ([((rd_T123 l0 x13_1).f0) % 256, 1, (wrap64 (((rd_T123 l0 x13_1).f2) + 1)) % 256] : List Int)) (inner := [.int .u8 (((rd_T123 l0 x13_1).f0) % 256), .int .u8 1, .int .u8 ((wrap64 (((rd_T123 l0 x13_1).f2) + 1)) % 256)]) (ok := fun _ => True) (okp := fun _ => True) ?hr ?hp (fun _ hk => hk) trivial (Below.refl _ _) (Nat.le_refl _) (by simp) ?_; (case hd => rfl); (case hg => rfl); (case hr => first | (go_simp; done) | (go_simp; rfl)); (case hp => exact (Reps.one (show Kd.M (Kd.int .u8) _ _ _ (((rd_T123 l0 x13_1).f0) % 256) [.int .u8 (((rd_T123 l0 x13_1).f0) % 256)] from rfl) (Reps.one (show Kd.M (Kd.int .u8) _ _ _ 1 [.int .u8 1] from rfl) (Reps.one (show Kd.M (Kd.int .u8) _ _ _ ((wrap64 (((rd_T123 l0 x13_1).f2) + 1)) % 256) [.int .u8 ((wrap64 (((rd_T123 l0 x13_1).f2) + 1)) % 256)] from rfl) (Reps.none _ _))))); intro v120 w12 ho13 hb hg_ hnew_; clear hg_ hnew_; (first | rw [← Ny119.out] at ho13 | (simp only [Int.reduceToNat] at ho13; rw [← Ny119.out] at ho13)); have n0_ := Aside0.mk (Kd.R_elder' (by (with_reducible repeat (first | apply Kd.R_alloc | apply Kd.R_drewN | apply Kd.R_drew)); exact (Kd.R_mono (Kd.R_far (p := ⟨gb118, 2, none⟩) (Kd.R_far (p := ⟨gb118, 1, none⟩) (Kd.R_far (p := ⟨gb118, 0, none⟩) (Kd.R_types HO_3.out BK118.out (by decide)) (fun _ hk => hk.2) (.int .i64 ((rd_T123 l0 x13_1).f0))) (fun _ hk => hk.2) (.bool true)) (fun _ hk => hk.2) (.int .i64 ((rd_T123 l0 x13_1).f2))) (fun _ h_ => h_.1))) (Kd.R_base ho13) hb); have n1_ := Aside0.mk (Kd.R_lower (Kd.R_new' ho13 (Kd.R_lt (by (with_reducible repeat (first | apply Kd.R_alloc | apply Kd.R_drewN | apply Kd.R_drew)); exact (Kd.R_mono (Kd.R_far (p := ⟨gb118, 2, none⟩) (Kd.R_far (p := ⟨gb118, 1, none⟩) (Kd.R_far (p := ⟨gb118, 0, none⟩) (Kd.R_types HO_3.out BK118.out (by decide)) (fun _ hk => hk.2) (.int .i64 ((rd_T123 l0 x13_1).f0))) (fun _ hk => hk.2) (.bool true)) (fun _ hk => hk.2) (.int .i64 ((rd_T123 l0 x13_1).f2))) (fun _ h_ => h_.1))))) (below_size (by repeat (first | (with_reducible first | exact HB.out | apply below_alloc | apply pw_below_drewN | apply below_drew1 | refine below_set ?_ GE118.out) | exact HB.out)))); have n2_ := Aside0.mk (blk_below (g := gb118) (o := .cells #[.int .i64 ((rd_T123 l0 x13_1).f0), .bool true, .int .i64 ((rd_T123 l0 x13_1).f2)] 123 (0, 0)) (by (with_reducible repeat (first | refine blk_drewN ?_ _ | refine blk_drew ?_ | refine blk_alloc ?_ _)); refine blk_put (cs := #[.int .i64 ((rd_T123 l0 x13_1).f0), .bool true, .int .i64 0]) ?_ 2 _ rfl; (with_reducible repeat (first | refine blk_drewN ?_ _ | refine blk_drew ?_ | refine blk_alloc ?_ _)); refine blk_put (cs := #[.int .i64 ((rd_T123 l0 x13_1).f0), .bool false, .int .i64 0]) ?_ 1 _ rfl; (with_reducible repeat (first | refine blk_drewN ?_ _ | refine blk_drew ?_ | refine blk_alloc ?_ _)); refine blk_put (cs := #[.int .i64 0, .bool false, .int .i64 0]) ?_ 0 _ rfl; (with_reducible repeat (first | refine blk_drewN ?_ _ | refine blk_drew ?_ | refine blk_alloc ?_ _)); exact BK118.out) hb); have n3_ := Aside0.mk (below_step (by repeat (first | (with_reducible first | exact HB.out | apply below_alloc | apply pw_below_drewN | apply below_drew1 | refine below_set ?_ GE118.out) | exact HB.out)) hb); clear HO_3; clear BK118; clear HB; have HO_3 := n0_; have HO121 := n1_; have BK118 := n2_; have HB := n3_; clear n0_ n1_ n2_ n3_; clear hb ho13; obtain ⟨Ao15, co15, eo15⟩ := Kd.R_slice HO121.out; subst eo15) | ((with_reducible refine gate_builtin (b := .append) (xs := #[.tmp 19, .tmp 28]) rfl ?_); at_builtin; refine Kd.R_append_rows (Kd.int .u8) (w0 := w) w.heap.size rfl (.tmp 19) (.tmp 28) 30 5 (.int .u8 0) 1 rfl Tryz.underlying30 info5 rfl (by decide) (by omega) u3 x3_1 y119 _ _ _ (fun k_ => some k_ ≠ (.slice Ao15 y119.length co15 : Value).ownBlock) (fun _ => False) rfl rfl ?aO ?aR (fun _ _ h => h) (fun _ h => h.elim) ?aF ?aB ?aS ?aL ?_; (case aR => repeat (first | exact (Kd.R_reads' HO121.out).2.2 | (with_reducible refine Kd.C_alloc ?_ _) | (with_reducible refine Kd.C_drewN ?_ _) | (with_reducible refine Kd.C_drew ?_))); (case aB => exact (by repeat (first | (with_reducible first | exact HB.out | apply below_alloc | apply pw_below_drewN | apply below_drew1 | refine below_set ?_ GE118.out) | exact HB.out))); (case aF => exact (fun k_ hk => Kd.fresh' (Kd.R_lt (by (with_reducible repeat (first | apply Kd.R_alloc | apply Kd.R_drewN | apply Kd.R_drew)); exact HO121.out)) k_ hk)); (case aO => exact (by (with_reducible repeat (first | apply Kd.R_alloc | apply Kd.R_drewN | apply Kd.R_drew)); exact Kd.R_mono HO_3.out (fun _ hk => hk.2))); (case aS => exact (below_size (by repeat (first | (with_reducible first | exact HB.out | apply below_alloc | apply pw_below_drewN | apply below_drew1 | refine below_set ?_ GE118.out) | exact HB.out)))); (case aL => have := LMc9.out; omega); intro v123 w14 ho hb hg hat; rw [← Ny122.out] at ho; have n0_ := Aside0.mk (blk_grown (g := gb118) (o := .cells #[.int .i64 ((rd_T123 l0 x13_1).f0), .bool true, .int .i64 ((rd_T123 l0 x13_1).f2)] 123 (0, 0)) (by (with_reducible repeat (first | refine blk_drewN ?_ _ | refine blk_drew ?_ | refine blk_alloc ?_ _)); exact BK118.out) hg (Kd.R_ne HO_3.out BK118.out (by decide))); have n1_ := Aside0.mk (Kd.R_after (ok := (fun _ => True)) (by (with_reducible repeat (first | apply Kd.R_alloc | apply Kd.R_drewN | apply Kd.R_drew)); exact HO121.out) hg hat); have n2_ := Aside0.mk (hb); have n3_ := Aside0.mk (ho); clear BK118; clear HO121; clear HB; clear HO_3; have BK118 := n0_; have HO121 := n1_; have HB := n2_; have HO124 := n3_; clear n0_ n1_ n2_ n3_; clear ho hb hg hat))
                go_roundg k1
                case measure => have := HK1.out; omega
                case rel => exact ⟨(y122), (wrap64 (x13_1 + 1)), (by first | rfl | (simp; done) | (simp [*]; done)), H', ⟨by have := HK1.out; omega⟩, ⟨by (with_reducible repeat (first | apply Kd.R_alloc | apply Kd.R_drewN | apply Kd.R_drew)); exact Kd.R_mono HO124.out (fun _ hk => trivial)⟩, ⟨by repeat (first | (with_reducible first | exact HB.out | apply below_alloc | apply pw_below_drewN | apply below_drew1 | refine below_set ?_ GE118.out) | exact HB.out)⟩⟩
              · rw [if_neg c9] at H
                exact absurd H (by simp)
            · replace c8 := Bool.eq_false_iff.mpr c8
              subst c8
              have H1 : ((some (([((rd_T123 l0 x13_1).f0) % 256, 0, (wrap64 (((rd_T123 l0 x13_1).f2) + 1)) % 256] : List Int) : List Int)).bind fun y125 => (if x3_1.length + y125.length < 140737488355328 then (value_PutSchema.l0 k1 (x3_1 ++ y125) l0 (l0.length : Int) (wrap64 (x13_1 + 1))) else (none))) = some r := by rw [if_neg (show ¬ (false = true) by decide)] at H; exact H
              clear H
              have H := H1
              clear H1
              obtain ⟨y125, hy125⟩ : ∃ y_ : List Int, y_ = (([((rd_T123 l0 x13_1).f0) % 256, 0, (wrap64 (((rd_T123 l0 x13_1).f2) + 1)) % 256] : List Int)) := ⟨_, rfl⟩
              replace H : (if x3_1.length + y125.length < 140737488355328 then (value_PutSchema.l0 k1 (x3_1 ++ y125) l0 (l0.length : Int) (wrap64 (x13_1 + 1))) else (none)) = some r := by first | (rw [hy125]; with_reducible exact H) | (have H2_ := (Option.bind_some _ _).symm.trans H; rw [hy125]; with_reducible exact H2_) | (have H2_ := (Option.bind_some _ _).symm.trans H; with_reducible exact H2_) | with_reducible exact H | (rw [hy125]; exact H) | exact H
              have Ny125 := Aside0.mk hy125
              clear hy125
              by_cases c16 : x3_1.length + y125.length < 140737488355328
              · rw [if_pos c16] at H
                have LMc16 := Aside0.mk c16
                clear c16
                obtain ⟨y128, hy128⟩ : ∃ y_ : List Int, y_ = (x3_1 ++ y125) := ⟨_, rfl⟩
                replace H : (value_PutSchema.l0 k1 y128 l0 (l0.length : Int) (wrap64 (x13_1 + 1))) = some r := by first | (rw [hy128]; with_reducible exact H) | (have H2_ := (Option.bind_some _ _).symm.trans H; rw [hy128]; with_reducible exact H2_) | (have H2_ := (Option.bind_some _ _).symm.trans H; with_reducible exact H2_) | with_reducible exact H | (rw [hy128]; exact H) | exact H
                have Ny128 := Aside0.mk hy128
                clear hy128
                have H' := Aside0.mk H
                clear H
                have p117 : 0 ≤ (x13_1 : Int) := of_decide_eq_true (by first | (with_reducible assumption) | assumption)
                have q117 : x13_1 < (l0.length : Int) := of_decide_eq_true (by first | (with_reducible assumption) | assumption)
                obtain ⟨ad117, e117, hx117_0, hx117_1, hx117_2⟩ := at_T123 HR0.out x13_1 p117 q117
                (try rw [← Nbq7.out] at hx117_1)
                cases e117
                replace hx117_0 := (HB.out.cell (World.block_lt_of_cell? w _ hx117_0)).trans hx117_0
                replace hx117_1 := (HB.out.cell (World.block_lt_of_cell? w _ hx117_1)).trans hx117_1
                replace hx117_2 := (HB.out.cell (World.block_lt_of_cell? w _ hx117_2)).trans hx117_2
                replace p117 := eq_true p117
                replace q117 := eq_true q117
                go_wp2_with (first | ((with_reducible refine gate_dst (N := 5) rfl ?_); refine box_event ?hg (N := 5) ?hd (cs := #[.int .i64 0, .bool false, .int .i64 0]) (t := 123) ?hr ?_; (case hd => rfl); (case hg => rfl); (case hr => first | (go_simp; done) | (go_simp; rfl)); intro gb118 hg w17 hbox hb; have n0_ := Aside0.mk (Kd.R_below (by (with_reducible repeat (first | apply Kd.R_alloc | apply Kd.R_drewN | apply Kd.R_drew)); exact HO_3.out) hb); have n1_ := Aside0.mk (below_step (by repeat (first | (with_reducible first | exact HB.out | apply below_alloc | apply pw_below_drewN | apply below_drew1) | exact HB.out)) hb); have n2_ := Aside0.mk (hbox); have n3_ := Aside0.mk ((by rw [hg]; exact (below_size (by repeat (first | (with_reducible first | exact HB.out | apply below_alloc | apply pw_below_drewN | apply below_drew1) | exact HB.out))) : w.heap.size ≤ gb118)); have n4_ := Aside0.mk ((by rw [hg]; exact (below_size (by repeat (first | (with_reducible first | exact HB.out | apply below_alloc | apply pw_below_drewN | apply below_drew1) | exact HB.out))) : w.heap.size ≤ gb118)); clear HO_3; clear HB; have HO_3 := n0_; have HB := n1_; have BK118 := n2_; have GW118 := n3_; have GE118 := n4_; clear n0_ n1_ n2_ n3_ n4_; clear hb hbox hg; have hcz18_0 : w17.cell? ⟨gb118, 0, none⟩ = some (.int .i64 0) := (blk_cell BK118.out 0).trans rfl; have hcz18_1 : w17.cell? ⟨gb118, 1, none⟩ = some (.bool false) := (blk_cell BK118.out 1).trans rfl; have hcz18_2 : w17.cell? ⟨gb118, 2, none⟩ = some (.int .i64 0) := (blk_cell BK118.out 2).trans rfl; have hfz18_0 := blk_frozen BK118.out 0; have hfz18_1 := blk_frozen BK118.out 1; have hfz18_2 := blk_frozen BK118.out 2) | ((with_reducible refine gate_dst (N := 28) rfl ?_); refine Kd.R_lit (Kd.int .u8) _ 5 ?hg (N := 28) ?hd (xs := ([((rd_T123 l0 x13_1).f0) % 256, 0, (wrap64 (((rd_T123 l0 x13_1).f2) + 1)) % 256] : List Int)) (inner := [.int .u8 (((rd_T123 l0 x13_1).f0) % 256), .int .u8 0, .int .u8 ((wrap64 (((rd_T123 l0 x13_1).f2) + 1)) % 256)]) (ok := fun _ => True) (okp := fun _ => True) ?hr ?hp (fun _ hk => hk) trivial (Below.refl _ _) (Nat.le_refl _) (by simp) ?_; (case hd => rfl); (case hg => rfl); (case hr => first | (go_simp; done) | (go_simp; rfl)); (case hp => exact (Reps.one (show Kd.M (Kd.int .u8) _ _ _ (((rd_T123 l0 x13_1).f0) % 256) [.int .u8 (((rd_T123 l0 x13_1).f0) % 256)] from rfl) (Reps.one (show Kd.M (Kd.int .u8) _ _ _ 0 [.int .u8 0] from rfl) (Reps.one (show Kd.M (Kd.int .u8) _ _ _ ((wrap64 (((rd_T123 l0 x13_1).f2) + 1)) % 256) [.int .u8 ((wrap64 (((rd_T123 l0 x13_1).f2) + 1)) % 256)] from rfl) (Reps.none _ _))))); intro v126 w19 ho20 hb hg_ hnew_; clear hg_ hnew_; (first | rw [← Ny125.out] at ho20 | (simp only [Int.reduceToNat] at ho20; rw [← Ny125.out] at ho20)); have n0_ := Aside0.mk (Kd.R_elder' (by (with_reducible repeat (first | apply Kd.R_alloc | apply Kd.R_drewN | apply Kd.R_drew)); exact (Kd.R_mono (Kd.R_far (p := ⟨gb118, 2, none⟩) (Kd.R_far (p := ⟨gb118, 1, none⟩) (Kd.R_far (p := ⟨gb118, 0, none⟩) (Kd.R_types HO_3.out BK118.out (by decide)) (fun _ hk => hk.2) (.int .i64 ((rd_T123 l0 x13_1).f0))) (fun _ hk => hk.2) (.bool false)) (fun _ hk => hk.2) (.int .i64 ((rd_T123 l0 x13_1).f2))) (fun _ h_ => h_.1))) (Kd.R_base ho20) hb); have n1_ := Aside0.mk (Kd.R_lower (Kd.R_new' ho20 (Kd.R_lt (by (with_reducible repeat (first | apply Kd.R_alloc | apply Kd.R_drewN | apply Kd.R_drew)); exact (Kd.R_mono (Kd.R_far (p := ⟨gb118, 2, none⟩) (Kd.R_far (p := ⟨gb118, 1, none⟩) (Kd.R_far (p := ⟨gb118, 0, none⟩) (Kd.R_types HO_3.out BK118.out (by decide)) (fun _ hk => hk.2) (.int .i64 ((rd_T123 l0 x13_1).f0))) (fun _ hk => hk.2) (.bool false)) (fun _ hk => hk.2) (.int .i64 ((rd_T123 l0 x13_1).f2))) (fun _ h_ => h_.1))))) (below_size (by repeat (first | (with_reducible first | exact HB.out | apply below_alloc | apply pw_below_drewN | apply below_drew1 | refine below_set ?_ GE118.out) | exact HB.out)))); have n2_ := Aside0.mk (blk_below (g := gb118) (o := .cells #[.int .i64 ((rd_T123 l0 x13_1).f0), .bool false, .int .i64 ((rd_T123 l0 x13_1).f2)] 123 (0, 0)) (by (with_reducible repeat (first | refine blk_drewN ?_ _ | refine blk_drew ?_ | refine blk_alloc ?_ _)); refine blk_put (cs := #[.int .i64 ((rd_T123 l0 x13_1).f0), .bool false, .int .i64 0]) ?_ 2 _ rfl; (with_reducible repeat (first | refine blk_drewN ?_ _ | refine blk_drew ?_ | refine blk_alloc ?_ _)); refine blk_put (cs := #[.int .i64 ((rd_T123 l0 x13_1).f0), .bool false, .int .i64 0]) ?_ 1 _ rfl; (with_reducible repeat (first | refine blk_drewN ?_ _ | refine blk_drew ?_ | refine blk_alloc ?_ _)); refine blk_put (cs := #[.int .i64 0, .bool false, .int .i64 0]) ?_ 0 _ rfl; (with_reducible repeat (first | refine blk_drewN ?_ _ | refine blk_drew ?_ | refine blk_alloc ?_ _)); exact BK118.out) hb); have n3_ := Aside0.mk (below_step (by repeat (first | (with_reducible first | exact HB.out | apply below_alloc | apply pw_below_drewN | apply below_drew1 | refine below_set ?_ GE118.out) | exact HB.out)) hb); clear HO_3; clear BK118; clear HB; have HO_3 := n0_; have HO127 := n1_; have BK118 := n2_; have HB := n3_; clear n0_ n1_ n2_ n3_; clear hb ho20; obtain ⟨Ao22, co22, eo22⟩ := Kd.R_slice HO127.out; subst eo22) | ((with_reducible refine gate_builtin (b := .append) (xs := #[.tmp 19, .tmp 28]) rfl ?_); at_builtin; refine Kd.R_append_rows (Kd.int .u8) (w0 := w) w.heap.size rfl (.tmp 19) (.tmp 28) 30 5 (.int .u8 0) 1 rfl Tryz.underlying30 info5 rfl (by decide) (by omega) u3 x3_1 y125 _ _ _ (fun k_ => some k_ ≠ (.slice Ao22 y125.length co22 : Value).ownBlock) (fun _ => False) rfl rfl ?aO ?aR (fun _ _ h => h) (fun _ h => h.elim) ?aF ?aB ?aS ?aL ?_; (case aR => repeat (first | exact (Kd.R_reads' HO127.out).2.2 | (with_reducible refine Kd.C_alloc ?_ _) | (with_reducible refine Kd.C_drewN ?_ _) | (with_reducible refine Kd.C_drew ?_))); (case aB => exact (by repeat (first | (with_reducible first | exact HB.out | apply below_alloc | apply pw_below_drewN | apply below_drew1 | refine below_set ?_ GE118.out) | exact HB.out))); (case aF => exact (fun k_ hk => Kd.fresh' (Kd.R_lt (by (with_reducible repeat (first | apply Kd.R_alloc | apply Kd.R_drewN | apply Kd.R_drew)); exact HO127.out)) k_ hk)); (case aO => exact (by (with_reducible repeat (first | apply Kd.R_alloc | apply Kd.R_drewN | apply Kd.R_drew)); exact Kd.R_mono HO_3.out (fun _ hk => hk.2))); (case aS => exact (below_size (by repeat (first | (with_reducible first | exact HB.out | apply below_alloc | apply pw_below_drewN | apply below_drew1 | refine below_set ?_ GE118.out) | exact HB.out)))); (case aL => have := LMc16.out; omega); intro v129 w21 ho hb hg hat; rw [← Ny128.out] at ho; have n0_ := Aside0.mk (blk_grown (g := gb118) (o := .cells #[.int .i64 ((rd_T123 l0 x13_1).f0), .bool false, .int .i64 ((rd_T123 l0 x13_1).f2)] 123 (0, 0)) (by (with_reducible repeat (first | refine blk_drewN ?_ _ | refine blk_drew ?_ | refine blk_alloc ?_ _)); exact BK118.out) hg (Kd.R_ne HO_3.out BK118.out (by decide))); have n1_ := Aside0.mk (Kd.R_after (ok := (fun _ => True)) (by (with_reducible repeat (first | apply Kd.R_alloc | apply Kd.R_drewN | apply Kd.R_drew)); exact HO127.out) hg hat); have n2_ := Aside0.mk (hb); have n3_ := Aside0.mk (ho); clear BK118; clear HO127; clear HB; clear HO_3; have BK118 := n0_; have HO127 := n1_; have HB := n2_; have HO130 := n3_; clear n0_ n1_ n2_ n3_; clear ho hb hg hat))
                go_roundg k1
                case measure => have := HK1.out; omega
                case rel => exact ⟨(y128), (wrap64 (x13_1 + 1)), (by first | rfl | (simp; done) | (simp [*]; done)), H', ⟨by have := HK1.out; omega⟩, ⟨by (with_reducible repeat (first | apply Kd.R_alloc | apply Kd.R_drewN | apply Kd.R_drew)); exact Kd.R_mono HO130.out (fun _ hk => trivial)⟩, ⟨by repeat (first | (with_reducible first | exact HB.out | apply below_alloc | apply pw_below_drewN | apply below_drew1 | refine below_set ?_ GE118.out) | exact HB.out)⟩⟩
              · rw [if_neg c16] at H
                exact absurd H (by simp)
          · rw [if_neg c6] at H
            exact absurd H (by simp)
        · rw [if_neg c5] at H
          exact absurd H (by simp)
      · rw [if_neg c4] at H
        have c4b0 : decide (x13_1 < (l0.length : Int)) = false := decide_eq_false c4
        clear c4
        obtain rfl := Option.some.inj H
        go_wp2
        go_ret
        exact ⟨_, by first | rfl | (simp [errW_none, errW_some] <;> rfl) | (simp [*, errW_none, errW_some] <;> rfl), by (with_reducible repeat (first | apply Kd.R_alloc | apply Kd.R_drewN | apply Kd.R_drew)); exact HO_3.out, by repeat (first | (with_reducible first | exact HB.out | apply below_alloc | apply pw_below_drewN | apply below_drew1) | exact HB.out)⟩
end Go.Proofs.YtjmhiklmlgbifaaGreatDoor.PMan
end
section
namespace Go.Proofs.YtjmhiklmlgbifaaGreatDoor.PMan
open Go.RowKit Go.Proofs.YtjmhiklmlgbifaaGreatDoorW.PrintWords Go.Proofs.YtjmhiklmlgbifaaGreatDoorW.PrintLast Go.Proofs.YtjmhiklmlgbifaaGreatDoorW.PrintMore
attribute [local go_sem] max2_int min2_int max_two min_two max_three min_three max_four min_four   -- for this text's walks alone
set_option linter.unusedVariables false
set_option linter.unusedSimpArgs false
theorem m_pv (v : Value) (l : List Int) (x : Int) (t : List Int) (w0 w : World) (hB : Below w0.heap.size w0 w) (ho : Kd.R (Kd.int .u8) 5 w w0.heap.size (fun _ => True) v l) (h : num_PutVar.f 2 l x = some t) :
    Calls Tryz.prog 29 #[v, .int .u64 x] w fun e w' => ∃ v' : Value, e = .returned v' ∧ Kd.R (Kd.int .u8) 5 w' w0.heap.size (fun _ => True) v' t ∧ Below w0.heap.size w0 w' := by
  refine (num_PutVar.calls 2 (fun _ => True) v l x t w0 w hB ho h).mono ?_
  rintro e w' ⟨v', rfl, hr, hb, _⟩
  exact ⟨v', rfl, Kd.R_mono hr (fun _ _ => trivial), hb⟩
set_option maxHeartbeats 1600000 in
set_option maxRecDepth 100000 in
theorem m_putrows (v : Value) (l t : List Int) (w0 w : World) (hB : Below w0.heap.size w0 w) (ho : Kd.R (Kd.int .u8) 5 w w0.heap.size (fun _ => True) v l) (h : num_PutVar.f 2 l 0 = some t) :
    Calls Tryz.prog 33 #[v, .slice none 0 0] w fun e w' => ∃ v' : Value, e = .returned v' ∧ Kd.R (Kd.int .u8) 5 w' w0.heap.size (fun _ => True) v' t ∧ Below w0.heap.size w0 w' := by
  have HB := Aside0.mk hB
  have HO := Aside0.mk ho
  have HF := Aside0.mk h
  clear hB ho h
  go_enter Tryz.func33, Tryz.ntmps33
  go_wp2_with fail
  refine (m_pv v l 0 t w0 w HB.out HO.out HF.out).mono ?_
  rintro e w1 ⟨v', rfl, hr, hb⟩
  have HR := Aside0.mk hr
  have HB1 := Aside0.mk hb
  clear hr hb
  go_wp2
  go_rounds 1
  go_ret
  exact ⟨_, rfl, HR.out, HB1.out⟩
/-- The bytes in the least manifest's frame. -/
def leastL : List Int := [0, 0, 1, 1, 1, 0, 0, 0, 0, 1] ++ List.replicate 65 0
/-- The least manifest's file. -/
def leastF : List Int := match frame_Put.f 5 leastL with | some (x, _) => x | none => []
theorem leastF_is : frame_Put.f 5 leastL = some (leastF, 0) := by decide +kernel
theorem m_schemaBytes : value_PutSchema.f 5 [⟨1, false, -1⟩] = some [1, 1, 0, 0] := by decide +kernel
set_option maxHeartbeats 4000000 in
set_option maxRecDepth 100000 in
theorem m_put (s cs e ce : Nat) (w : World) (hM : ManP w s cs e ce) : Calls Tryz.prog 10 #[ManV s cs e ce] w fun ev w' => ∃ v : Value, ev = .returned (.tuple #[v, .int .i64 0]) ∧ Kd.R (Kd.int .u8) 5 w' w.heap.size (fun _ => True) v leastF ∧ Below w.heap.size w w' := by
  have HM := Aside0.mk hM
  clear hM
  unfold ManV
  go_enter Tryz.func10, Tryz.ntmps10
  go_wp2_with fail
  have hx0 : (w.alloc (.cells #[.int .i64 0, .int .i64 0, .slice (some ⟨s, 0, none⟩) 1 cs, .int .i64 1, .slice none 0 0, .slice none 0 0, .slice (some ⟨e, 0, none⟩) 1 ce] 27)).heap[w.heap.size]? = some (.cells #[.int .i64 0, .int .i64 0, .slice (some ⟨s, 0, none⟩) 1 cs, .int .i64 1, .slice none 0 0, .slice none 0 0, .slice (some ⟨e, 0, none⟩) 1 ce] 27 (0, 0)) := heap_alloc_new w _
  have hb0 : Below w.heap.size w (w.alloc (.cells #[.int .i64 0, .int .i64 0, .slice (some ⟨s, 0, none⟩) 1 cs, .int .i64 1, .slice none 0 0, .slice none 0 0, .slice (some ⟨e, 0, none⟩) 1 ce] 27)) := below_alloc (Below.refl _ _) _
  have HX := Aside0.mk hx0
  have HB0 := Aside0.mk hb0
  have HM0 := Aside0.mk (HM.out.below hb0)
  clear hx0 hb0
  generalize w.alloc (.cells #[.int .i64 0, .int .i64 0, .slice (some ⟨s, 0, none⟩) 1 cs, .int .i64 1, .slice none 0 0, .slice none 0 0, .slice (some ⟨e, 0, none⟩) 1 ce] 27) = W0 at *
  refine (m_check s cs e ce W0 HM0.out).mono ?_
  rintro ev w1 ⟨rfl, hb⟩
  have hx2 : w1.drew.heap[w.heap.size]? = some (.cells #[.int .i64 0, .int .i64 0, .slice (some ⟨s, 0, none⟩) 1 cs, .int .i64 1, .slice none 0 0, .slice none 0 0, .slice (some ⟨e, 0, none⟩) 1 ce] 27 (0, 0)) := (hb.block _ (blk_lt HX.out)).trans HX.out
  have HB1 := Aside0.mk (below_drew hb)
  have HM1 := Aside0.mk (HM0.out.below (below_drew hb))
  have hbw : Below w.heap.size w w1.drew := HB0.out.trans ((below_drew hb).mono HB0.out.size)
  have HBW := Aside0.mk hbw
  clear hb hbw
  go_wp2_with fail
  have q0 : w1.drew.cell? ⟨w.heap.size, 0, none⟩ = some (.int .i64 0) := blk_cell hx2 0
  have Q0 := Aside0.mk q0
  have q1 : w1.drew.cell? ⟨w.heap.size, 1, none⟩ = some (.int .i64 0) := blk_cell hx2 1
  have Q1 := Aside0.mk q1
  have q2 : w1.drew.cell? ⟨w.heap.size, 2, none⟩ = some (.slice (some ⟨s, 0, none⟩) 1 cs) := blk_cell hx2 2
  have Q2 := Aside0.mk q2
  have q3 : w1.drew.cell? ⟨w.heap.size, 3, none⟩ = some (.int .i64 1) := blk_cell hx2 3
  have Q3 := Aside0.mk q3
  have q4 : w1.drew.cell? ⟨w.heap.size, 4, none⟩ = some (.slice none 0 0) := blk_cell hx2 4
  have Q4 := Aside0.mk q4
  have q5 : w1.drew.cell? ⟨w.heap.size, 5, none⟩ = some (.slice none 0 0) := blk_cell hx2 5
  have Q5 := Aside0.mk q5
  have q6 : w1.drew.cell? ⟨w.heap.size, 6, none⟩ = some (.slice (some ⟨e, 0, none⟩) 1 ce) := blk_cell hx2 6
  have Q6 := Aside0.mk q6
  clear hx2
  clear HB1 HX
  refine start_ (n := 13) (S := fun w' => w'.cell? ⟨w.heap.size, 0, none⟩ = some (.int .i64 0) ∧ w'.cell? ⟨w.heap.size, 1, none⟩ = some (.int .i64 0) ∧ w'.cell? ⟨w.heap.size, 3, none⟩ = some (.int .i64 1)) (ds := []) #[false, false, false, false, false, false, false, false, false, false, false, false, false] (by kernel_rfl) rfl rfl ⟨q0, q1, q3⟩ (fun hHeld => ?_)
  generalize w1.drew = W2 at *
  refine pure_ (i := 0) (N := some 15) (v := ?_) (a' := ?_) #[true, false, false, false, false, false, false, false, false, false, false, false, false] rfl rfl (by kernel_rfl) (fun _ _ _ h => h) (Or.inl ⟨by rfl, ?_⟩) ?_ ?_
  rotate_left
  · intro w'
    go_simp
    with_reducible rfl
  rotate_left
  · simp only [Act.put, List.setIfInBounds_toArray, List.set_cons_zero, List.set_cons_succ, i64_w, i32_w]
    rfl
  refine pure_ (i := 4) (N := some 19) (v := ?_) (a' := ?_) #[true, false, false, false, true, false, false, false, false, false, false, false, false] rfl rfl (by kernel_rfl) (fun _ _ _ h => h) (Or.inl ⟨by rfl, ?_⟩) ?_ ?_
  rotate_left
  · intro w'
    go_simp
    with_reducible rfl
  rotate_left
  · simp only [Act.put, List.setIfInBounds_toArray, List.set_cons_zero, List.set_cons_succ, i64_w, i32_w]
    rfl
  refine pure_ (i := 8) (N := some 23) (v := ?_) (a' := ?_) #[true, false, false, false, true, false, false, false, true, false, false, false, false] rfl rfl (by kernel_rfl) (fun _ _ _ h => h) (Or.inl ⟨by rfl, ?_⟩) ?_ ?_
  rotate_left
  · intro w'
    go_simp
    with_reducible rfl
  rotate_left
  · simp only [Act.put, List.setIfInBounds_toArray, List.set_cons_zero, List.set_cons_succ, i64_w, i32_w]
    rfl
  refine take_ (i := 1) (N := some 16) (v := ?_) (a' := ?_) #[true, true, false, false, true, false, false, false, true, false, false, false, false] rfl rfl (by kernel_rfl) (fun _ _ _ h => h) (Or.inl ⟨by rfl, ?_⟩) hHeld ?_ ?_
  rotate_left
  · rintro w' ⟨s0, s1, s2⟩
    go_simp
    with_reducible rfl
  rotate_left
  · simp only [Act.put, List.setIfInBounds_toArray, List.set_cons_zero, List.set_cons_succ, i64_w, i32_w]
    rfl
  refine pure_ (i := 2) (N := some 17) (v := ?_) (a' := ?_) #[true, true, true, false, true, false, false, false, true, false, false, false, false] rfl rfl (by kernel_rfl) (fun _ _ _ h => h) (Or.inl ⟨by rfl, ?_⟩) ?_ ?_
  rotate_left
  · intro w'
    go_simp
    with_reducible rfl
  rotate_left
  · simp only [Act.put, List.setIfInBounds_toArray, List.set_cons_zero, List.set_cons_succ, i64_w, i32_w]
    rfl
  refine take_ (i := 5) (N := some 20) (v := ?_) (a' := ?_) #[true, true, true, false, true, true, false, false, true, false, false, false, false] rfl rfl (by kernel_rfl) (fun _ _ _ h => h) (Or.inl ⟨by rfl, ?_⟩) hHeld ?_ ?_
  rotate_left
  · rintro w' ⟨s0, s1, s2⟩
    go_simp
    with_reducible rfl
  rotate_left
  · simp only [Act.put, List.setIfInBounds_toArray, List.set_cons_zero, List.set_cons_succ, i64_w, i32_w]
    rfl
  refine pure_ (i := 6) (N := some 21) (v := ?_) (a' := ?_) #[true, true, true, false, true, true, true, false, true, false, false, false, false] rfl rfl (by kernel_rfl) (fun _ _ _ h => h) (Or.inl ⟨by rfl, ?_⟩) ?_ ?_
  rotate_left
  · intro w'
    go_simp
    with_reducible rfl
  rotate_left
  · simp only [Act.put, List.setIfInBounds_toArray, List.set_cons_zero, List.set_cons_succ, i64_w, i32_w]
    rfl
  refine take_ (i := 9) (N := some 24) (v := ?_) (a' := ?_) #[true, true, true, false, true, true, true, false, true, true, false, false, false] rfl rfl (by kernel_rfl) (fun _ _ _ h => h) (Or.inl ⟨by rfl, ?_⟩) hHeld ?_ ?_
  rotate_left
  · rintro w' ⟨s0, s1, s2⟩
    go_simp
    with_reducible rfl
  rotate_left
  · simp only [Act.put, List.setIfInBounds_toArray, List.set_cons_zero, List.set_cons_succ, i64_w, i32_w]
    rfl
  refine pure_ (i := 10) (N := some 25) (v := ?_) (a' := ?_) #[true, true, true, false, true, true, true, false, true, true, true, false, false] rfl rfl (by kernel_rfl) (fun _ _ _ h => h) (Or.inl ⟨by rfl, ?_⟩) ?_ ?_
  rotate_left
  · intro w'
    go_simp
    with_reducible rfl
  rotate_left
  · simp only [Act.put, List.setIfInBounds_toArray, List.set_cons_zero, List.set_cons_succ, i64_w, i32_w]
    rfl
  refine one_ (i := 3) (N := some 18) #[true, true, true, true, true, true, true, false, true, true, true, false, false] rfl rfl (by kernel_rfl) (by decide) (fun K hK => ?_)
  refine goes_ Tryz.func29 (by kernel_rfl) rfl #[(.slice none 0 0), .int .u64 0] (by rfl) rfl rfl (by simp only [List.map_toArray, List.map_cons, List.map_nil]; rfl) ?_
  with_reducible refine (m_pv (.slice none 0 0) [] 0 [0] W2 W2 (Below.refl _ _) (Kd.R_nil _ _ _ _ _) (by decide +kernel)).mono ?_
  rintro e wa ⟨va, rfl, hoa, hba⟩
  refine ⟨_, rfl, ?_⟩
  have HOa := Aside0.mk hoa
  have HBa := Aside0.mk hba
  clear hoa hba
  have q0 := pw_cell_below HBa.out Q0.out
  have q1 := pw_cell_below HBa.out Q1.out
  have q3 := pw_cell_below HBa.out Q3.out
  have q4 := pw_cell_below HBa.out Q4.out
  have q5 := pw_cell_below HBa.out Q5.out
  have q6 := pw_cell_below HBa.out Q6.out
  refine hK.out _ _ ⟨q0, q1, q3⟩ (fun hHeld => ?_)
  clear hK K
  refine norm_ (a' := ?_) ?_ ?_
  rotate_left
  · show Act.put _ (some 18) _ = _
    simp only [Act.put, List.setIfInBounds_toArray, List.set_cons_zero, List.set_cons_succ, i64_w, i32_w]
    rfl
  refine one_ (i := 7) (N := some 22) #[true, true, true, true, true, true, true, true, true, true, true, false, false] rfl rfl (by kernel_rfl) (by decide) (fun K hK => ?_)
  refine goes_ Tryz.func29 (by kernel_rfl) rfl #[va, .int .u64 0] (by rfl) rfl rfl (by simp only [List.map_toArray, List.map_cons, List.map_nil]; rfl) ?_
  with_reducible refine (m_pv va [0] 0 [0, 0] W2 wa HBa.out HOa.out (by decide +kernel)).mono ?_
  rintro e wb ⟨vb, rfl, hob, hbb⟩
  refine ⟨_, rfl, ?_⟩
  have HOb := Aside0.mk hob
  have HBb := Aside0.mk hbb
  clear hob hbb
  have q0 := pw_cell_below HBb.out Q0.out
  have q1 := pw_cell_below HBb.out Q1.out
  have q3 := pw_cell_below HBb.out Q3.out
  have q4 := pw_cell_below HBb.out Q4.out
  have q5 := pw_cell_below HBb.out Q5.out
  have q6 := pw_cell_below HBb.out Q6.out
  refine hK.out _ _ ⟨q0, q1, q3⟩ (fun hHeld => ?_)
  clear hK K
  refine norm_ (a' := ?_) ?_ ?_
  rotate_left
  · show Act.put _ (some 22) _ = _
    simp only [Act.put, List.setIfInBounds_toArray, List.set_cons_zero, List.set_cons_succ, i64_w, i32_w]
    rfl
  refine one_ (i := 11) (N := some 26) #[true, true, true, true, true, true, true, true, true, true, true, true, false] rfl rfl (by kernel_rfl) (by decide) (fun K hK => ?_)
  refine goes_ Tryz.func29 (by kernel_rfl) rfl #[vb, .int .u64 1] (by rfl) rfl rfl (by simp only [List.map_toArray, List.map_cons, List.map_nil]; rfl) ?_
  with_reducible refine (m_pv vb [0, 0] 1 [0, 0, 1] W2 wb HBb.out HOb.out (by decide +kernel)).mono ?_
  rintro e wc ⟨vc, rfl, hoc, hbc⟩
  refine ⟨_, rfl, ?_⟩
  have HOc := Aside0.mk hoc
  have HBc := Aside0.mk hbc
  clear hoc hbc
  have q0 := pw_cell_below HBc.out Q0.out
  have q1 := pw_cell_below HBc.out Q1.out
  have q3 := pw_cell_below HBc.out Q3.out
  have q4 := pw_cell_below HBc.out Q4.out
  have q5 := pw_cell_below HBc.out Q5.out
  have q6 := pw_cell_below HBc.out Q6.out
  refine hK.out _ _ ⟨q0, q1, q3⟩ (fun hHeld => ?_)
  clear hK K
  refine norm_ (a' := ?_) ?_ ?_
  rotate_left
  · show Act.put _ (some 26) _ = _
    simp only [Act.put, List.setIfInBounds_toArray, List.set_cons_zero, List.set_cons_succ, i64_w, i32_w]
    rfl
  refine pure_ (i := 12) (N := some 5) (v := ?_) (a' := ?_) #[true, true, true, true, true, true, true, true, true, true, true, true, true] rfl rfl (by kernel_rfl) (fun _ _ _ h => h) (Or.inl ⟨by rfl, ?_⟩) ?_ ?_
  rotate_left
  · intro w'
    go_simp
    with_reducible rfl
  rotate_left
  · simp only [Act.put, List.setIfInBounds_toArray, List.set_cons_zero, List.set_cons_succ, i64_w, i32_w]
    rfl
  refine done_ (by kernel_rfl) ?_
  have HMc := Aside0.mk (HM1.out.below HBc.out)
  have q2 := pw_cell_below HBc.out Q2.out
  go_wp2_with fail
  refine (value_PutSchema.calls 5 (some ⟨s, 0, none⟩) cs [⟨1, false, -1⟩] [1, 1, 0, 0] wc HMc.out.2.2.1 HMc.out.1 m_schemaBytes).mono ?_
  rintro e' wd ⟨vd, rfl, hr, hb⟩
  obtain ⟨Ad, cd, rfl⟩ := Kd.R_slice hr
  have HBd := Aside0.mk (HBc.out.trans (hb.mono HBc.out.size))
  have HOd := Aside0.mk (Kd.R_below HOc.out hb)
  have HRd := Aside0.mk (Kd.R_reads' hr).2.2
  clear hr hb
  have q0 := pw_cell_below HBd.out Q0.out
  have q1 := pw_cell_below HBd.out Q1.out
  have q3 := pw_cell_below HBd.out Q3.out
  have q4 := pw_cell_below HBd.out Q4.out
  have q5 := pw_cell_below HBd.out Q5.out
  have q6 := pw_cell_below HBd.out Q6.out
  go_wp2_with ((with_reducible refine gate_builtin (b := .append) (xs := #[.tmp 27, .tmp 30]) rfl ?_); at_builtin; refine Kd.R_append_rows (Kd.int .u8) (w0 := W2) W2.heap.size rfl (.tmp 27) (.tmp 30) 30 5 (.int .u8 0) 1 rfl Tryz.underlying30 info5 rfl (by decide) (by omega) vc [0, 0, 1] [1, 1, 0, 0] _ _ _ (fun _ => True) (fun _ => False) rfl rfl HOd.out HRd.out (fun _ _ h => h) (fun _ h => h.elim) (fun _ _ => trivial) HBd.out HBd.out.size (by decide) ?_; intro ve we ho hb hg hat; have HOe := Aside0.mk ho; have HBe := Aside0.mk hb; clear ho hb hg hat; have q0 := pw_cell_below HBe.out Q0.out; have q1 := pw_cell_below HBe.out Q1.out; have q3 := pw_cell_below HBe.out Q3.out; have q4 := pw_cell_below HBe.out Q4.out; have q5 := pw_cell_below HBe.out Q5.out; have q6 := pw_cell_below HBe.out Q6.out)
  refine (m_pv ve ([0, 0, 1] ++ [1, 1, 0, 0]) 0 ([0, 0, 1, 1, 1, 0, 0] ++ [0]) W2 we HBe.out HOe.out (by decide +kernel)).mono ?_
  rintro e' wf ⟨vf, rfl, hr, hb⟩
  have HBf0 := Aside0.mk hb
  have HBf := Aside0.mk (below_drew hb)
  have HOf := Aside0.mk (Kd.R_below hr (below_drew (Below.refl _ wf)))
  clear hr hb
  have q0 := pw_cell_below HBf0.out Q0.out
  have q1 := pw_cell_below HBf0.out Q1.out
  have q3 := pw_cell_below HBf0.out Q3.out
  have q4 := pw_cell_below HBf0.out Q4.out
  have q5 := pw_cell_below HBf0.out Q5.out
  have q6 := pw_cell_below HBf0.out Q6.out
  go_wp2_with fail
  refine wp_loop_rounds 1 ?_
  rw [rounds_succ]
  go_wp2_with fail
  have q0 := pw_cell_below HBf.out Q0.out
  have q1 := pw_cell_below HBf.out Q1.out
  have q3 := pw_cell_below HBf.out Q3.out
  have q4 := pw_cell_below HBf.out Q4.out
  have q5 := pw_cell_below HBf.out Q5.out
  have q6 := pw_cell_below HBf.out Q6.out
  refine start_ (n := 10) (S := fun w' => w'.cell? ⟨w.heap.size, 5, none⟩ = some (.slice none 0 0) ∧ w'.cell? ⟨w.heap.size, 6, none⟩ = some (.slice (some ⟨e, 0, none⟩) 1 ce)) (ds := []) #[false, false, false, false, false, false, false, false, false, false] (by kernel_rfl) rfl rfl ⟨q5, q6⟩ (fun hHeld => ?_)
  refine pure_ (i := 0) (N := some 59) (v := ?_) (a' := ?_) #[true, false, false, false, false, false, false, false, false, false] rfl rfl (by kernel_rfl) (fun _ _ _ h => h) (Or.inl ⟨by rfl, ?_⟩) ?_ ?_
  rotate_left
  · intro w'
    go_simp
    with_reducible rfl
  rotate_left
  · simp only [Act.put, List.setIfInBounds_toArray, List.set_cons_zero, List.set_cons_succ, i64_w, i32_w]
    rfl
  refine pure_ (i := 1) (N := some 60) (v := ?_) (a' := ?_) #[true, true, false, false, false, false, false, false, false, false] rfl rfl (by kernel_rfl) (fun _ _ _ h => h) (Or.inl ⟨by rfl, ?_⟩) ?_ ?_
  rotate_left
  · intro w'
    go_simp
    with_reducible rfl
  rotate_left
  · simp only [Act.put, List.setIfInBounds_toArray, List.set_cons_zero, List.set_cons_succ, i64_w, i32_w]
    rfl
  refine pure_ (i := 4) (N := some 63) (v := ?_) (a' := ?_) #[true, true, false, false, true, false, false, false, false, false] rfl rfl (by kernel_rfl) (fun _ _ _ h => h) (Or.inl ⟨by rfl, ?_⟩) ?_ ?_
  rotate_left
  · intro w'
    go_simp
    with_reducible rfl
  rotate_left
  · simp only [Act.put, List.setIfInBounds_toArray, List.set_cons_zero, List.set_cons_succ, i64_w, i32_w]
    rfl
  refine take_ (i := 2) (N := some 61) (v := ?_) (a' := ?_) #[true, true, true, false, true, false, false, false, false, false] rfl rfl (by kernel_rfl) (fun _ _ _ h => h) (Or.inl ⟨by rfl, ?_⟩) hHeld ?_ ?_
  rotate_left
  · rintro w' ⟨s0, s1⟩
    go_simp
    with_reducible rfl
  rotate_left
  · simp only [Act.put, List.setIfInBounds_toArray, List.set_cons_zero, List.set_cons_succ, i64_w, i32_w]
    rfl
  refine take_ (i := 5) (N := some 64) (v := ?_) (a' := ?_) #[true, true, true, false, true, true, false, false, false, false] rfl rfl (by kernel_rfl) (fun _ _ _ h => h) (Or.inl ⟨by rfl, ?_⟩) hHeld ?_ ?_
  rotate_left
  · rintro w' ⟨s0, s1⟩
    go_simp
    with_reducible rfl
  rotate_left
  · simp only [Act.put, List.setIfInBounds_toArray, List.set_cons_zero, List.set_cons_succ, i64_w, i32_w]
    rfl
  refine pure_ (i := 6) (N := some 65) (v := ?_) (a' := ?_) #[true, true, true, false, true, true, true, false, false, false] rfl rfl (by kernel_rfl) (fun _ _ _ h => h) (Or.inl ⟨by rfl, ?_⟩) ?_ ?_
  rotate_left
  · intro w'
    go_simp
    with_reducible rfl
  rotate_left
  · simp only [Act.put, List.setIfInBounds_toArray, List.set_cons_zero, List.set_cons_succ, i64_w, i32_w]
    rfl
  refine pure_ (i := 7) (N := some 66) (v := ?_) (a' := ?_) #[true, true, true, false, true, true, true, true, false, false] rfl rfl (by kernel_rfl) (fun _ _ _ h => h) (Or.inl ⟨by rfl, ?_⟩) ?_ ?_
  rotate_left
  · intro w'
    go_simp
    with_reducible rfl
  rotate_left
  · simp only [Act.put, List.setIfInBounds_toArray, List.set_cons_zero, List.set_cons_succ, i64_w, i32_w]
    rfl
  refine one_ (i := 3) (N := some 62) #[true, true, true, true, true, true, true, true, false, false] rfl rfl (by kernel_rfl) (by decide) (fun K hK => ?_)
  refine goes_ Tryz.func33 (by kernel_rfl) rfl #[vf, .slice none 0 0] (by rfl) rfl rfl (by simp only [List.map_toArray, List.map_cons, List.map_nil]; rfl) ?_
  with_reducible refine (m_putrows vf ([0, 0, 1, 1, 1, 0, 0] ++ [0]) ([0, 0, 1, 1, 1, 0, 0] ++ [0, 0]) W2 wf.drew HBf.out HOf.out (by decide +kernel)).mono ?_
  rintro e' wg ⟨vg, rfl, hog, hbg⟩
  refine ⟨_, rfl, ?_⟩
  have HOg := Aside0.mk hog
  have HBg := Aside0.mk hbg
  clear hog hbg
  have q0 := pw_cell_below HBg.out Q0.out
  have q1 := pw_cell_below HBg.out Q1.out
  have q3 := pw_cell_below HBg.out Q3.out
  have q4 := pw_cell_below HBg.out Q4.out
  have q5 := pw_cell_below HBg.out Q5.out
  have q6 := pw_cell_below HBg.out Q6.out
  refine hK.out _ _ ⟨q5, q6⟩ (fun hHeld => ?_)
  clear hK K
  refine norm_ (a' := ?_) ?_ ?_
  rotate_left
  · show Act.put _ (some 62) _ = _
    simp only [Act.put, List.setIfInBounds_toArray, List.set_cons_zero, List.set_cons_succ, i64_w, i32_w]
    rfl
  refine one_ (i := 8) (N := some 67) #[true, true, true, true, true, true, true, true, true, false] rfl rfl (by kernel_rfl) (by decide) (fun K hK => ?_)
  refine goes_ Tryz.func29 (by kernel_rfl) rfl #[vg, .int .u64 1] (by rfl) rfl rfl (by simp only [List.map_toArray, List.map_cons, List.map_nil]; rfl) ?_
  with_reducible refine (m_pv vg ([0, 0, 1, 1, 1, 0, 0] ++ [0, 0]) 1 ([0, 0, 1, 1, 1, 0, 0] ++ [0, 0, 1]) W2 wg HBg.out HOg.out (by decide +kernel)).mono ?_
  rintro e wh ⟨vh, rfl, hoh, hbh⟩
  refine ⟨_, rfl, ?_⟩
  have HOh := Aside0.mk hoh
  have HBh := Aside0.mk hbh
  clear hoh hbh
  have q0 := pw_cell_below HBh.out Q0.out
  have q1 := pw_cell_below HBh.out Q1.out
  have q3 := pw_cell_below HBh.out Q3.out
  have q4 := pw_cell_below HBh.out Q4.out
  have q5 := pw_cell_below HBh.out Q5.out
  have q6 := pw_cell_below HBh.out Q6.out
  refine hK.out _ _ ⟨q5, q6⟩ (fun hHeld => ?_)
  clear hK K
  refine norm_ (a' := ?_) ?_ ?_
  rotate_left
  · show Act.put _ (some 67) _ = _
    simp only [Act.put, List.setIfInBounds_toArray, List.set_cons_zero, List.set_cons_succ, i64_w, i32_w]
    rfl
  refine pure_ (i := 9) (N := some 5) (v := ?_) (a' := ?_) #[true, true, true, true, true, true, true, true, true, true] rfl rfl (by kernel_rfl) (fun _ _ _ h => h) (Or.inl ⟨by rfl, ?_⟩) ?_ ?_
  rotate_left
  · intro w'
    go_simp
    with_reducible rfl
  rotate_left
  · simp only [Act.put, List.setIfInBounds_toArray, List.set_cons_zero, List.set_cons_succ, i64_w, i32_w]
    rfl
  refine done_ (by kernel_rfl) ?_
  have HMh := Aside0.mk (HM1.out.below HBh.out)
  go_wp2_with fail
  refine wp_loop_rounds 2 ?_
  rw [rounds_succ]
  have hone : Tryz.zeroCells81.all (·.oneCell') = true := by kernel_rfl
  go_wp2_with (first | (refine wpList_load_mid rfl 81 (.tmp 73) rfl e 0 rfl Tryz.zeroCells81.toList _ HMh.out.2.2.2 Tryz.underlying81 rfl (by kernel_rfl) ?_) | (refine wpList_store_row rfl 81 (.tmp 9) (.tmp 74) rfl wh.heap.size Tryz.zeroCells81 rfl rfl 81 Tryz.zeroCells81 (heap_alloc_new wh _) (by rw [ents_size]; kernel_rfl) rfl hone ?_; rw [World.setRow_alloc_new]) | (refine wpList_load_row rfl 81 (.tmp 9) rfl wh.heap.size rfl 81 Tryz.zeroCells81 (0, 0) _ (heap_alloc_new wh _) Tryz.underlying81 rfl (by rw [ents_size]; kernel_rfl) ?_))
  have hbi : Below wh.heap.size wh (wh.alloc (.cells Tryz.zeroCells81 81)) := below_alloc (Below.refl _ _) _
  refine (led_putE (wh.alloc (.cells Tryz.zeroCells81 81))).mono ?_
  rintro e' wi ⟨vi, rfl, hr, hb⟩
  obtain ⟨Ai, ci, rfl⟩ := Kd.R_slice hr
  have HBi := Aside0.mk (HBh.out.trans ((hbi.trans (hb.mono hbi.size)).mono HBh.out.size))
  have HOi := Aside0.mk (Kd.R_below (Kd.R_below HOh.out hbi) hb)
  have HRi := Aside0.mk (Kd.R_reads' hr).2.2
  clear hr hb hbi
  go_wp2_with ((with_reducible refine gate_builtin (b := .append) (xs := #[.tmp 75, .tmp 77]) rfl ?_); at_builtin; refine Kd.R_append_rows (Kd.int .u8) (w0 := W2) W2.heap.size rfl (.tmp 75) (.tmp 77) 30 5 (.int .u8 0) 1 rfl Tryz.underlying30 info5 rfl (by decide) (by omega) vh ([0, 0, 1, 1, 1, 0, 0] ++ [0, 0, 1]) (List.replicate 65 0) _ _ _ (fun _ => True) (fun _ => False) rfl rfl HOi.out HRi.out (fun _ _ h => h) (fun _ h => h.elim) (fun _ _ => trivial) HBi.out HBi.out.size (by decide) ?_; intro vj wj ho hb hg hat; have HOj := Aside0.mk ho; have HBj := Aside0.mk hb; clear ho hb hg hat; have q0 := pw_cell_below HBj.out Q0.out; have q1 := pw_cell_below HBj.out Q1.out; have q3 := pw_cell_below HBj.out Q3.out; have q4 := pw_cell_below HBj.out Q4.out; have q5 := pw_cell_below HBj.out Q5.out; have q6 := pw_cell_below HBj.out Q6.out)
  rw [rounds_succ]
  go_wp2_with fail
  obtain ⟨Aj, cj, rfl⟩ := Kd.R_slice HOj.out
  have hcj := Kd.R_reads' HOj.out
  refine (frame_Put.calls 5 Aj cj leastL leastF 0 wj hcj.2.2 hcj.2.1 leastF_is).mono ?_
  rintro e' wk ⟨vk, rfl, hr, hb⟩
  have HOk := Aside0.mk hr
  have HBk := Aside0.mk hb
  clear hr hb hcj
  go_wp2
  go_ret2
  have z := HBW.out.size
  have z2 := HBj.out.size
  exact ⟨_, rfl, Kd.R_lower HOk.out (by omega), HBW.out.trans ((HBj.out.mono z).trans (HBk.out.mono (by omega)))⟩
end Go.Proofs.YtjmhiklmlgbifaaGreatDoor.PMan
end
section
namespace Go.Proofs.YtjmhiklmlgbifaaGreatDoor.PMan
open Go.RowKit Go.Proofs.YtjmhiklmlgbifaaGreatDoorW.PrintWords Go.Proofs.YtjmhiklmlgbifaaGreatDoorW.PrintLast Go.Proofs.YtjmhiklmlgbifaaGreatDoorW.PrintMore
attribute [local go_sem] max2_int min2_int max_two min_two max_three min_three max_four min_four   -- for this text's walks alone
set_option linter.unusedVariables false
set_option linter.unusedSimpArgs false
theorem lf3 : num_Reader_Fix.f leastL 3 0 0 1 = some (1, 4, 0, 0) := by decide +kernel
theorem lf4 : num_Reader_Fix.f leastL 4 0 0 1 = some (1, 5, 0, 0) := by decide +kernel
theorem lf5 : num_Reader_Fix.f leastL 5 0 0 1 = some (0, 6, 0, 0) := by decide +kernel
theorem lf6 : num_Reader_Fix.f leastL 6 0 0 1 = some (0, 7, 0, 0) := by decide +kernel
theorem keep_then {w W W1 : World} {g : Nat} (h : KeepBut w W g none) (h2 : KeepBut W W1 g none) : KeepBut w W1 g none :=
  ⟨Nat.le_trans h.1 h2.1, fun i hi h3 h4 => (h2.2 i (Nat.lt_of_lt_of_le hi h.1) h3 h4).trans (h.2 i hi h3 h4)⟩
set_option maxHeartbeats 4000000 in
set_option maxRecDepth 100000 in
theorem rd_takeSchema (g : Nat) (w0 w : World) (hG : ErrT w0) (hI : RD w0 w g leastL 3 0 0) (hB : Below w0.heap.size w0 w) :
    Calls Tryz.prog 91 #[.pointer (some ⟨g, 0, none⟩)] w fun e w' => ∃ s c, e = .returned (.slice (some ⟨s, 0, none⟩) 1 c) ∧ 1 ≤ c ∧ Kd.C k123 w' (some ⟨s, 0, none⟩) 1 [⟨1, false, -1⟩] ∧ w.heap.size ≤ s ∧ s < w'.heap.size ∧ RD w0 w' g leastL 7 0 0 ∧ Below w0.heap.size w0 w' ∧ KeepBut w w' g none := by
  have HG := Aside0.mk hG
  have HI := Aside0.mk hI
  have HB := Aside0.mk hB
  clear hG hI hB
  go_enter Tryz.func91, Tryz.ntmps91
  go_wp2_with fail
  refine (num_Reader_Fix.calls g leastL 3 0 0 1 1 4 0 0 w0 w HI.out HB.out lf3).mono ?_
  rintro e wa ⟨rfl, h1, h2, h3⟩
  have HIa := Aside0.mk h1
  have HBa := Aside0.mk h2
  have HKa := Aside0.mk h3
  clear h1 h2 h3
  go_wp2_with fail
  refine wp_loop_rounds 2 ?_
  rw [rounds_succ]
  go_wp2_with fail
  refine (num_Reader_Fix.calls g leastL 4 0 0 1 1 5 0 0 w0 wa HIa.out HBa.out lf4).mono ?_
  rintro e wb ⟨rfl, h1, h2, h3⟩
  have HIb := Aside0.mk h1
  have HBb := Aside0.mk h2
  have HKb := Aside0.mk (keep_then HKa.out h3)
  clear h1 h2 h3
  go_wp2_with fail
  refine (num_Reader_Fix.calls g leastL 5 0 0 1 0 6 0 0 w0 wb HIb.out HBb.out lf5).mono ?_
  rintro e wc ⟨rfl, h1, h2, h3⟩
  have HIc := Aside0.mk h1
  have HBc := Aside0.mk h2
  have HKc := Aside0.mk (keep_then HKb.out h3)
  clear h1 h2 h3
  go_wp2_with fail
  refine (num_Reader_Fix.calls g leastL 6 0 0 1 0 7 0 0 w0 wc HIc.out HBc.out lf6).mono ?_
  rintro e wd ⟨rfl, h1, h2, h3⟩
  have HId := Aside0.mk h1
  have HBd := Aside0.mk h2
  have HKd := Aside0.mk (keep_then HKc.out h3)
  clear h1 h2 h3
  go_wp2_with fail
  refine (rd_good g leastL 7 w0 wd (HG.out.of_below HBd.out) HId.out).mono ?_
  rintro e we ⟨rfl, h1⟩
  have HIe := Aside0.mk (HId.out.below h1)
  have HBe := Aside0.mk (below_then HBd.out HBd.out.size h1)
  have HKe := Aside0.mk (KeepBut.below_ HKd.out h1)
  clear h1
  go_wp2_with ((with_reducible refine gate_builtin (b := .append) (xs := #[.tmp 27, .tmp 36]) rfl ?_); at_builtin; refine Kd.R_append k123 (w0 := we) we.heap.size rfl (.tmp 27) (.tmp 36) 22 123 (.agg #[.int .i64 0, .bool false, .int .i64 0]) 24 rfl Tryz.underlying22 (by kernel_rfl) rfl (by decide) (by decide) (.slice none 0 0) [] (⟨1, false, -1⟩ : S123) [.int .i64 1, .bool false, .int .i64 (-1)] (fun _ => True) (fun _ => False) rfl rfl (k123_mkM _ _ _ _) (fun _ h => h.elim) (fun _ _ => trivial) (Kd.R_nil _ _ _ _ _) (Below.refl _ _) (Nat.le_refl _) (by decide) ?_; intro vf wf ho hb _ _; have HO := Aside0.mk ho; have HBf := Aside0.mk hb; clear ho hb)
  obtain ⟨sb, cap, rfl, _⟩ := Kd.R_form HO.out (by simp)
  have hrd := Kd.R_reads' HO.out
  have HCA := Aside0.mk hrd.2.1
  have HCC := Aside0.mk hrd.2.2
  have HSB := Aside0.mk (Kd.R_base HO.out sb rfl)
  have HSL := Aside0.mk (Kd.R_lt HO.out sb rfl)
  have HIf := Aside0.mk (HIe.out.below HBf.out)
  have HBf2 := Aside0.mk (below_then HBe.out HBe.out.size HBf.out)
  have HKf := Aside0.mk (KeepBut.below_ HKe.out HBf.out)
  clear hrd
  rw [rounds_succ]
  go_wp2_with fail
  refine (rd_good g leastL 7 w0 wf (HG.out.of_below HBf2.out) HIf.out).mono ?_
  rintro e wg ⟨rfl, h1⟩
  have HIg := Aside0.mk (HIf.out.below h1)
  have HBg := Aside0.mk (below_then HBf2.out HBf2.out.size h1)
  have HKg := Aside0.mk (KeepBut.below_ HKf.out h1)
  have HCg := Aside0.mk (Kd.C_below HCC.out h1)
  have HSg := Aside0.mk (Nat.lt_of_lt_of_le HSL.out h1.size)
  clear h1
  go_wp2_with fail
  refine (value_Schema.calls 5 (some ⟨sb, 0, none⟩) cap [⟨1, false, -1⟩] 0 wg HCg.out HCA.out (by kernel_rfl)).mono ?_
  rintro e wh ⟨rfl, h1⟩
  have HIh := Aside0.mk (HIg.out.below h1)
  have HBh := Aside0.mk (below_then HBg.out HBg.out.size h1)
  have HKh := Aside0.mk (KeepBut.below_ HKg.out h1)
  have HCh := Aside0.mk (Kd.C_below HCg.out h1)
  have HSh := Aside0.mk (Nat.lt_of_lt_of_le HSg.out h1.size)
  clear h1
  go_wp2_with fail
  refine (rd_fail_no g leastL _ _ _ 0 w0 _ HIh.out (.inr rfl)).mono ?_
  rintro e w' ⟨rfl, rfl⟩
  go_wp2_with fail
  refine (rd_good g leastL 7 w0 wh (HG.out.of_below HBh.out) HIh.out).mono ?_
  rintro e wi ⟨rfl, h1⟩
  have HIi := Aside0.mk (HIh.out.below h1)
  have HBi := Aside0.mk (below_then HBh.out HBh.out.size h1)
  have HKi := Aside0.mk (KeepBut.below_ HKh.out h1)
  have HCi := Aside0.mk (Kd.C_below HCh.out h1)
  have HSi := Aside0.mk (Nat.lt_of_lt_of_le HSh.out h1.size)
  clear h1
  go_wp2
  go_ret
  have z := HSB.out
  have z2 := HKe.out.1
  exact ⟨sb, cap, rfl, HCA.out, HCi.out, by omega, HSi.out, HIi.out, HBi.out, HKi.out⟩
theorem lv8 : num_short.f 3 (leastL.drop (8 : Int).toNat) = some (0, 1, 0) := by decide +kernel
set_option maxHeartbeats 4000000 in
set_option maxRecDepth 100000 in
theorem rd_takeRows (s c : Nat) (g : Nat) (w0 w : World) (hG : ErrT w0) (hI : RD w0 w g leastL 8 0 0) (hB : Below w0.heap.size w0 w) :
    Calls Tryz.prog 94 #[.pointer (some ⟨g, 0, none⟩), .slice (some ⟨s, 0, none⟩) 1 c] w fun e w' => e = .returned (.slice none 0 0) ∧ RD w0 w' g leastL 9 0 0 ∧ Below w0.heap.size w0 w' ∧ KeepBut w w' g none := by
  have HG := Aside0.mk hG
  have HI := Aside0.mk hI
  have HB := Aside0.mk hB
  clear hG hI hB
  go_enter Tryz.func94, Tryz.ntmps94
  go_wp2_with fail
  refine (rd_var 3 g leastL 8 0 1 w0 w HI.out HB.out (by decide) (by decide) (by decide +kernel) lv8).mono ?_
  rintro e wa ⟨rfl, h1, h2, h3⟩
  have HIa := Aside0.mk h1
  have HBa := Aside0.mk h2
  have HKa := Aside0.mk h3
  clear h1 h2 h3
  go_wp2_with fail
  refine (rd_good g leastL 9 w0 wa (HG.out.of_below HBa.out) HIa.out).mono ?_
  rintro e wi ⟨rfl, h1⟩
  have HIi := Aside0.mk (HIa.out.below h1)
  have HBi := Aside0.mk (below_then HBa.out HBa.out.size h1)
  have HKi := Aside0.mk (KeepBut.below_ HKa.out h1)
  clear h1
  go_wp2
  go_rounds 1
  go_ret
  exact ⟨rfl, HIi.out, HBi.out, HKi.out⟩
end Go.Proofs.YtjmhiklmlgbifaaGreatDoor.PMan
end
section
namespace Go.Proofs.YtjmhiklmlgbifaaGreatDoor.PMan
open Go.RowKit Go.Proofs.YtjmhiklmlgbifaaGreatDoorW.PrintWords Go.Proofs.YtjmhiklmlgbifaaGreatDoorW.PrintLast Go.Proofs.YtjmhiklmlgbifaaGreatDoorW.PrintMore
attribute [local go_sem] max2_int min2_int max_two min_two max_three min_three max_four min_four   -- for this text's walks alone
set_option linter.unusedVariables false
set_option linter.unusedSimpArgs false
theorem lt10 : num_Reader_Take.f leastL 10 0 0 32 = some (List.replicate 32 0, 42, 0, 0) := by decide +kernel
theorem lt43 : num_Reader_Take.f leastL 43 0 0 32 = some (List.replicate 32 0, 75, 0, 0) := by decide +kernel
theorem lv42 : num_short.f 3 (leastL.drop (42 : Int).toNat) = some (0, 1, 0) := by decide +kernel
theorem setCell_self (w : World) (b o : Nat) (v : Value) (c : Array Value) (t : TypeId) (fr : Nat × Nat) (hb : w.heap[b]? = some (.cells c t fr)) (hv : c[o]? = some v) : w.setCell ⟨b, o, none⟩ v = w := by
  have hlt : b < w.heap.size := (Array.getElem?_eq_some_iff.1 hb).1
  have he : w.heap[b] = .cells c t fr := (Array.getElem?_eq_some_iff.1 hb).2
  have hs : c.setIfInBounds o v = c := by
    apply Array.ext_getElem?
    intro i
    rw [Array.getElem?_setIfInBounds]
    split
    · rename_i h; subst h; simp only [(Array.getElem?_eq_some_iff.1 hv).1, if_true]; exact hv.symm
    · rfl
  unfold World.setCell
  cases w with
  | mk heap tape drawn os output =>
    congr 1
    apply Array.ext
    · simp
    · intro k h1 h2
      simp only [Array.getElem_modify]
      split
      · rename_i hk; subst hk; simp at he; simp [he, hs]
      · rfl
theorem setCells_self (w : World) (b : Nat) (c : Array Value) (t : TypeId) (fr : Nat × Nat) (hb : w.heap[b]? = some (.cells c t fr)) : ∀ (vs : List Value) (o : Nat), (∀ j v, vs[j]? = some v → c[o + j]? = some v) → w.setCells b o vs = w
  | [], _, _ => rfl
  | v :: r, o, h => by
    have h0 := h 0 v rfl
    rw [World.setCells, setCell_self w b o v c t fr hb (by simpa using h0)]
    exact setCells_self w b c t fr hb r (o + 1) (fun j u hj => by have := h (j + 1) u (by simpa using hj); rwa [show o + (j + 1) = o + 1 + j from by omega] at this)
theorem ents_at_lo (j : Nat) (hj : j < 32) : Tryz.zeroCells81[0 + j]? = some (.int .u8 0) := by
  rw [ents_is, List.getElem?_toArray, Nat.zero_add, List.getElem?_append_left (by simpa using hj), List.getElem?_map, List.getElem?_replicate, if_pos hj]
  rfl
theorem ents_at_hi (j : Nat) (hj : j < 32) : Tryz.zeroCells81[33 + j]? = some (.int .u8 0) := by
  rw [ents_is, List.getElem?_toArray, List.getElem?_append_right (by simp; omega), List.length_map, List.length_replicate, show 33 + j - 32 = j + 1 from by omega, List.getElem?_cons_succ, List.getElem?_map, List.getElem?_replicate, if_pos hj]
  rfl
theorem copy_noughts (w : World) (b o : Nat) (A : Option Addr) (c : Nat) (hr : Kd.C (Kd.int .u8) w A (List.replicate 32 (0 : Int)).length (List.replicate 32 0)) (hb : w.heap[b]? = some (.cells Tryz.zeroCells81 81 (0, 0))) (he : ∀ j, j < 32 → Tryz.zeroCells81[o + j]? = some (.int .u8 0)) :
    (Builtin.copy_ #[30, 30] 3 #[.slice (some ⟨b, o, none⟩) 32 32, .slice A 32 c]).run Tryz.prog w = .ok (goInt 32) w := by
  obtain ⟨ad, rfl, _⟩ := Kd.at_int hr 0 (by decide) (by decide)
  have hcell : ∀ j, j < 32 → w.cell? ⟨b, o + j, none⟩ = some (.int .u8 0) := fun j hj => (blk_cell hb (o + j)).trans (he j hj)
  have h := run_copy_cells (P := Tryz.prog) w 30 30 3 5 b o 32 32 ad 32 c (List.replicate 32 (.int .u8 0)) Tryz.underlying30 (by kernel_rfl) (by decide) (fun j v hj => by
      have hj2 : j < 32 := by have := (List.getElem?_eq_some_iff.1 hj).1; simpa using this
      have hv : v = .int .u8 0 := by
        have := (List.getElem?_eq_some_iff.1 hj).2
        rw [List.getElem_replicate] at this
        exact this.symm
      obtain ⟨ad', e, hk⟩ := Kd.at_int hr (j : Int) (by omega) (by rw [List.length_replicate]; omega)
      obtain rfl := Option.some.inj e
      have hz : rd (List.replicate 32 (0 : Int)) (j : Int) = 0 := by unfold rd; rw [Int.toNat_natCast, List.getD_eq_getElem?_getD, List.getElem?_replicate, if_pos hj2]; rfl
      rw [hz, Int.toNat_natCast] at hk
      subst hv
      exact hk) (fun j hj => by rw [hcell j (by simpa using hj)]; rfl) (fun j hj => blk_frozen hb _) (fun v hv => by rw [List.eq_of_mem_replicate hv]; rfl)
  rw [setCells_self w b Tryz.zeroCells81 _ _ hb _ o (fun j v hj => by
    have hj2 : j < 32 := by have := (List.getElem?_eq_some_iff.1 hj).1; simpa using this
    have := (List.getElem?_eq_some_iff.1 hj).2
    rw [List.getElem_replicate] at this
    rw [he j hj2, this])] at h
  exact h
set_option maxHeartbeats 4000000 in
set_option maxRecDepth 100000 in
theorem rd_ledTake (g : Nat) (w0 w : World) (hG : ErrT w0) (hI : RD w0 w g leastL 10 0 0) (hB : Below w0.heap.size w0 w) :
    Calls Tryz.prog 95 #[.pointer (some ⟨g, 0, none⟩)] w fun e w' => e = .returned (.agg Tryz.zeroCells81) ∧ RD w0 w' g leastL 75 0 0 ∧ Below w0.heap.size w0 w' ∧ KeepBut w w' g none := by
  have HG := Aside0.mk hG
  have HI := Aside0.mk hI
  have HB := Aside0.mk hB
  have HGW := Aside0.mk hI.lt
  clear hG hI hB
  go_enter Tryz.func95, Tryz.ntmps95
  go_wp2_with fail
  have hal : Below w.heap.size w (w.alloc (.cells Tryz.zeroCells81 81)).drew := below_drew (below_alloc (Below.refl _ _) _)
  have HE1 := Aside0.mk (show (w.alloc (.cells Tryz.zeroCells81 81)).drew.heap[w.heap.size]? = some (.cells Tryz.zeroCells81 81 (0, 0)) from heap_alloc_new w _)
  have HI1 := Aside0.mk (HI.out.below hal)
  have HB1 := Aside0.mk (below_then HB.out HB.out.size hal)
  have HKP2 := Aside0.mk (KeepBut.of_below hal g none)
  clear hal
  refine start_ (n := 5) (S := fun w' => True) (ds := []) #[false, false, false, false, false] (by kernel_rfl) rfl rfl trivial (fun hHeld => ?_)
  generalize (w.alloc (.cells Tryz.zeroCells81 81)).drew = W1 at *
  refine pure_ (i := 0) (N := some 6) (v := ?_) (a' := ?_) #[true, false, false, false, false] rfl rfl (by kernel_rfl) (fun _ _ _ h => h) (Or.inl ⟨by rfl, ?_⟩) ?_ ?_
  rotate_left
  · intro w'
    go_simp
    with_reducible rfl
  rotate_left
  · simp only [Act.put, List.setIfInBounds_toArray, List.set_cons_zero, List.set_cons_succ, i64_w, i32_w]
    rfl
  refine pure_ (i := 1) (N := some 7) (v := ?_) (a' := ?_) #[true, true, false, false, false] rfl rfl (by kernel_rfl) (fun _ _ _ h => h) (Or.inl ⟨by rfl, ?_⟩) ?_ ?_
  rotate_left
  · intro w'
    go_simp
    with_reducible rfl
  rotate_left
  · simp only [Act.put, List.setIfInBounds_toArray, List.set_cons_zero, List.set_cons_succ, i64_w, i32_w]
    rfl
  refine pure_ (i := 2) (N := some 8) (v := ?_) (a' := ?_) #[true, true, true, false, false] rfl rfl (by kernel_rfl) (fun _ _ _ h => h) (Or.inl ⟨by rfl, ?_⟩) ?_ ?_
  rotate_left
  · intro w'
    go_simp
    with_reducible rfl
  rotate_left
  · simp only [Act.put, List.setIfInBounds_toArray, List.set_cons_zero, List.set_cons_succ, i64_w, i32_w]
    rfl
  refine one_ (i := 3) (N := some 9) #[true, true, true, true, false] rfl rfl (by kernel_rfl) (by decide) (fun K hK => ?_)
  refine goes_ Tryz.func127 (by kernel_rfl) rfl #[.pointer (some ⟨g, 0, none⟩), .int .i64 32] (by rfl) rfl rfl (by simp only [List.map_toArray, List.map_cons, List.map_nil]; rfl) ?_
  with_reducible refine (num_Reader_Take.calls g leastL 10 0 0 32 (List.replicate 32 0) 42 0 0 w0 W1 HI1.out HB1.out lt10).mono ?_
  rintro e w2 ⟨v2, rfl, hr, h1, h2, h3⟩
  refine ⟨_, rfl, ?_⟩
  obtain ⟨A2, c2, rfl⟩ := Kd.R_slice hr
  have hrd := (Kd.R_reads' hr).2.2
  have HI2 := Aside0.mk h1
  have HB2 := Aside0.mk h2
  have hbe := (h3.2 w.heap.size (blk_lt HE1.out) (Ne.symm (Nat.ne_of_lt HGW.out)) (by simp)).trans HE1.out
  have HE2 := Aside0.mk hbe
  have HK2 := Aside0.mk (keep_then HKP2.out h3)
  have hcp := copy_noughts w2 w.heap.size 0 A2 c2 hrd hbe (by intro j hj; exact ents_at_lo j hj)
  clear hr h1 h2 h3 hbe hrd
  refine hK.out _ _ trivial (fun hHeld => ?_)
  clear hK K
  refine norm_ (a' := ?_) ?_ ?_
  rotate_left
  · show Act.put _ (some 9) _ = _
    simp only [Act.put, List.setIfInBounds_toArray, List.set_cons_zero, List.set_cons_succ, i64_w, i32_w]
    rfl
  refine one_ (i := 4) (N := some 10) #[true, true, true, true, true] rfl rfl (by kernel_rfl) (by decide) (fun K hK => ?_)
  refine value_ (w1 := ?_) (v := ?_) (by rfl) rfl ?_ ?_
  rotate_left 2
  · go_simp
    constructor
    · rfl
    · rfl
  refine hK.out _ _ trivial (fun hHeld => ?_)
  clear hK K
  refine norm_ (a' := ?_) ?_ ?_
  rotate_left
  · show Act.put _ (some 10) _ = _
    simp only [Act.put, List.setIfInBounds_toArray, List.set_cons_zero, List.set_cons_succ, i64_w, i32_w]
    rfl
  refine done_ (by kernel_rfl) ?_
  go_wp2_with fail
  refine (rd_var 3 g leastL 42 0 1 w0 w2 HI2.out HB2.out (by decide) (by decide) (by decide +kernel) lv42).mono ?_
  rintro e w3 ⟨rfl, h1, h2, h3⟩
  have HI4 := Aside0.mk (show RD w0 w3.drew g leastL 43 0 0 from RD.drew h1)
  have HB4 := Aside0.mk (below_drew h2)
  have HE4 := Aside0.mk (show w3.drew.heap[w.heap.size]? = some (.cells Tryz.zeroCells81 81 (0, 0)) from (h3.2 w.heap.size (blk_lt HE2.out) (Ne.symm (Nat.ne_of_lt HGW.out)) (by simp)).trans HE2.out)
  have HKP5 := Aside0.mk (show KeepBut w w3.drew g none from keep_then HK2.out h3)
  clear h1 h2 h3
  go_wp2_with fail
  refine start_ (n := 5) (S := fun w' => True) (ds := []) #[false, false, false, false, false] (by kernel_rfl) rfl rfl trivial (fun hHeld => ?_)
  generalize w3.drew = W4 at *
  refine pure_ (i := 0) (N := some 13) (v := ?_) (a' := ?_) #[true, false, false, false, false] rfl rfl (by kernel_rfl) (fun _ _ _ h => h) (Or.inl ⟨by rfl, ?_⟩) ?_ ?_
  rotate_left
  · intro w'
    go_simp
    with_reducible rfl
  rotate_left
  · simp only [Act.put, List.setIfInBounds_toArray, List.set_cons_zero, List.set_cons_succ, i64_w, i32_w]
    rfl
  refine pure_ (i := 1) (N := some 14) (v := ?_) (a' := ?_) #[true, true, false, false, false] rfl rfl (by kernel_rfl) (fun _ _ _ h => h) (Or.inl ⟨by rfl, ?_⟩) ?_ ?_
  rotate_left
  · intro w'
    go_simp
    with_reducible rfl
  rotate_left
  · simp only [Act.put, List.setIfInBounds_toArray, List.set_cons_zero, List.set_cons_succ, i64_w, i32_w]
    rfl
  refine pure_ (i := 2) (N := some 15) (v := ?_) (a' := ?_) #[true, true, true, false, false] rfl rfl (by kernel_rfl) (fun _ _ _ h => h) (Or.inl ⟨by rfl, ?_⟩) ?_ ?_
  rotate_left
  · intro w'
    go_simp
    with_reducible rfl
  rotate_left
  · simp only [Act.put, List.setIfInBounds_toArray, List.set_cons_zero, List.set_cons_succ, i64_w, i32_w]
    rfl
  refine one_ (i := 3) (N := some 16) #[true, true, true, true, false] rfl rfl (by kernel_rfl) (by decide) (fun K hK => ?_)
  refine goes_ Tryz.func127 (by kernel_rfl) rfl #[.pointer (some ⟨g, 0, none⟩), .int .i64 32] (by rfl) rfl rfl (by simp only [List.map_toArray, List.map_cons, List.map_nil]; rfl) ?_
  with_reducible refine (num_Reader_Take.calls g leastL 43 0 0 32 (List.replicate 32 0) 75 0 0 w0 W4 HI4.out HB4.out lt43).mono ?_
  rintro e w5 ⟨v5, rfl, hr, h1, h2, h3⟩
  refine ⟨_, rfl, ?_⟩
  obtain ⟨A5, c5, rfl⟩ := Kd.R_slice hr
  have hrd := (Kd.R_reads' hr).2.2
  have HI5 := Aside0.mk h1
  have HB5 := Aside0.mk h2
  have hbe := (h3.2 w.heap.size (blk_lt HE4.out) (Ne.symm (Nat.ne_of_lt HGW.out)) (by simp)).trans HE4.out
  have HE5 := Aside0.mk hbe
  have HK5 := Aside0.mk (keep_then HKP5.out h3)
  have hcp := copy_noughts w5 w.heap.size 33 A5 c5 hrd hbe (by intro j hj; exact ents_at_hi j hj)
  clear hr h1 h2 h3 hbe hrd
  refine hK.out _ _ trivial (fun hHeld => ?_)
  clear hK K
  refine norm_ (a' := ?_) ?_ ?_
  rotate_left
  · show Act.put _ (some 16) _ = _
    simp only [Act.put, List.setIfInBounds_toArray, List.set_cons_zero, List.set_cons_succ, i64_w, i32_w]
    rfl
  refine one_ (i := 4) (N := some 17) #[true, true, true, true, true] rfl rfl (by kernel_rfl) (by decide) (fun K hK => ?_)
  refine value_ (w1 := ?_) (v := ?_) (by rfl) rfl ?_ ?_
  rotate_left 2
  · go_simp
    constructor
    · rfl
    · rfl
  refine hK.out _ _ trivial (fun hHeld => ?_)
  clear hK K
  refine norm_ (a' := ?_) ?_ ?_
  rotate_left
  · show Act.put _ (some 17) _ = _
    simp only [Act.put, List.setIfInBounds_toArray, List.set_cons_zero, List.set_cons_succ, i64_w, i32_w]
    rfl
  refine done_ (by kernel_rfl) ?_
  go_wp2_with fail
  refine (rd_err g leastL 75 0 0 w0 w5 (HG.out.of_below HB5.out) HI5.out).mono ?_
  rintro e w6 ⟨rfl, h1⟩
  have HI6 := Aside0.mk (HI5.out.below h1)
  have HB6 := Aside0.mk (below_then HB5.out HB5.out.size h1)
  have HK6 := Aside0.mk (KeepBut.below_ HK5.out h1)
  have hb6 := (h1.block _ (blk_lt HE5.out)).trans HE5.out
  have hq := (blk_cell hb6 32).trans ents32
  have hf := blk_frozen hb6 32
  have hw1 := setCell_self w6 w.heap.size 32 (.int .i64 0) Tryz.zeroCells81 _ _ hb6 ents32
  have hw2 := setRow_self w6 w.heap.size Tryz.zeroCells81 _ _ hb6
  have HW1 := Aside0.mk hw1
  have HW2 := Aside0.mk hw2
  have HX := Aside0.mk (show (w6.setCell ⟨w.heap.size, 32, none⟩ (.int .i64 0)).heap[w.heap.size]? = some (.cells Tryz.zeroCells81 81 (0, 0)) from by rw [hw1]; exact hb6)
  have HE6 := Aside0.mk hb6
  have hone : Tryz.zeroCells81.all (·.oneCell') = true := by kernel_rfl
  clear h1 hb6 hw1 hw2
  go_wp2_with (first | (refine wpList_load_row rfl 81 (.tmp 2) rfl w.heap.size rfl 81 Tryz.zeroCells81 (0, 0) _ HX.out Tryz.underlying81 rfl (by rw [ents_size]; kernel_rfl) ?_) | (refine wpList_store_row rfl 81 (.tmp 2) (.tmp 33) rfl w.heap.size Tryz.zeroCells81 rfl rfl 81 Tryz.zeroCells81 HX.out (by rw [ents_size]; kernel_rfl) rfl hone ?_))
  rw [HW1.out, HW2.out]
  refine bodyPost_ret (v := .agg Tryz.zeroCells81) (results_cell_row rfl _ _ w.heap.size 81 Tryz.zeroCells81 (0, 0) _ rfl HE6.out Tryz.underlying81 rfl (by rw [ents_size]; kernel_rfl)) rfl ?_
  exact ⟨rfl, HI6.out, HB6.out, HK6.out⟩
end Go.Proofs.YtjmhiklmlgbifaaGreatDoor.PMan
end

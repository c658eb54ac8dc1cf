/- Texts of this proof, put into one, without what it does not use: ManC, PManx6. -/
import Derived.Test.YtjmhiklmlgbifaaGreatDoorPB8
import Derived.Outline
import Derived.Test.YtjmhiklmlgbifaaGreatDoorPB10
import Derived.Test.YtjmhiklmlgbifaaGreatDoorPB4
section
namespace Go.Proofs.YtjmhiklmlgbifaaGreatDoor.PMan
open Go.RowKit Go.Proofs.YtjmhiklmlgbifaaGreatDoorW.PrintWords Go.Proofs.YtjmhiklmlgbifaaGreatDoorW.PrintLast Go.Proofs.YtjmhiklmlgbifaaGreatDoorW.PrintMore
attribute [local go_sem] max2_int min2_int max_two min_two max_three min_three max_four min_four   -- for this text's walks alone
set_option linter.unusedVariables false
set_option linter.unusedSimpArgs false
theorem m_within0 (w : World) : Calls Tryz.prog 44 #[.int .i64 0, .int .i64 0, .int .i64 1099511627776] w fun e w' => e = .returned (.bool true) ∧ Drawn0 w w' := manifest_within.calls 0 0 1099511627776 true w (by decide +kernel)
theorem m_within1 (w : World) : Calls Tryz.prog 44 #[.int .i64 1, .int .i64 1, .int .i64 65536] w fun e w' => e = .returned (.bool true) ∧ Drawn0 w w' := manifest_within.calls 1 1 65536 true w (by decide +kernel)
set_option maxHeartbeats 4000000 in
set_option maxRecDepth 100000 in
theorem m_check (s cs e ce : Nat) (w : World) (hM : ManP w s cs e ce) : Calls Tryz.prog 13 #[ManV s cs e ce] w fun ev w' => ev = .returned (.int .i64 0) ∧ Below w.heap.size w w' := by
  have HM := Aside0.mk hM
  clear hM
  unfold ManV
  go_enter Tryz.func13, Tryz.ntmps13
  go_wp2_with fail
  have hx0 : (w.alloc (.cells #[.int .i64 0, .int .i64 0, .slice (some ⟨s, 0, none⟩) 1 cs, .int .i64 1, .slice none 0 0, .slice none 0 0, .slice (some ⟨e, 0, none⟩) 1 ce] 27)).heap[w.heap.size]? = some (.cells #[.int .i64 0, .int .i64 0, .slice (some ⟨s, 0, none⟩) 1 cs, .int .i64 1, .slice none 0 0, .slice none 0 0, .slice (some ⟨e, 0, none⟩) 1 ce] 27 (0, 0)) := heap_alloc_new w _
  have hb0 : Below w.heap.size w (w.alloc (.cells #[.int .i64 0, .int .i64 0, .slice (some ⟨s, 0, none⟩) 1 cs, .int .i64 1, .slice none 0 0, .slice none 0 0, .slice (some ⟨e, 0, none⟩) 1 ce] 27)) := below_alloc (Below.refl _ _) _
  have HX := Aside0.mk hx0
  have HB0 := Aside0.mk hb0
  have HM0 := Aside0.mk (HM.out.below hb0)
  clear hx0 hb0
  generalize w.alloc (.cells #[.int .i64 0, .int .i64 0, .slice (some ⟨s, 0, none⟩) 1 cs, .int .i64 1, .slice none 0 0, .slice none 0 0, .slice (some ⟨e, 0, none⟩) 1 ce] 27) = W0 at *
  refine (value_Schema.calls 5 (some ⟨s, 0, none⟩) cs [⟨1, false, -1⟩] 0 W0 HM0.out.2.2.1 HM0.out.1 (by kernel_rfl)).mono ?_
  rintro ev w1 ⟨rfl, hb⟩
  have HB1 := Aside0.mk hb
  clear hb
  have hx := (HB1.out.block _ (blk_lt HX.out)).trans HX.out
  have HX := Aside0.mk hx
  have q0 : w1.cell? ⟨w.heap.size, 0, none⟩ = some (.int .i64 0) := blk_cell hx 0
  have q1 : w1.cell? ⟨w.heap.size, 1, none⟩ = some (.int .i64 0) := blk_cell hx 1
  have q2 : w1.cell? ⟨w.heap.size, 2, none⟩ = some (.slice (some ⟨s, 0, none⟩) 1 cs) := blk_cell hx 2
  have q3 : w1.cell? ⟨w.heap.size, 3, none⟩ = some (.int .i64 1) := blk_cell hx 3
  have q4 : w1.cell? ⟨w.heap.size, 4, none⟩ = some (.slice none 0 0) := blk_cell hx 4
  have q5 : w1.cell? ⟨w.heap.size, 5, none⟩ = some (.slice none 0 0) := blk_cell hx 5
  have q6 : w1.cell? ⟨w.heap.size, 6, none⟩ = some (.slice (some ⟨e, 0, none⟩) 1 ce) := blk_cell hx 6
  clear hx
  go_wp2_with (first | (go_at_call 44; (with_reducible refine (m_within0 _).mono ?_); rintro ev w' ⟨rfl, ⟨nd, rfl⟩⟩) | (go_at_call 44; (with_reducible refine (m_within1 _).mono ?_); rintro ev w' ⟨rfl, ⟨nd, rfl⟩⟩))
  refine (m_groups s cs e ce _).mono ?_
  rintro ev w2 ⟨rfl, hb⟩
  have HB2 := Aside0.mk (show Below w1.heap.size w1 w2 from (pw_below_drewN (Below.refl _ _) _).trans hb)
  clear hb
  clear q0 q1 q2 q3 q4 q5 q6
  have hx := (HB2.out.block _ (blk_lt HX.out)).trans HX.out
  have HX := Aside0.mk hx
  have q0 : w2.cell? ⟨w.heap.size, 0, none⟩ = some (.int .i64 0) := blk_cell hx 0
  have q1 : w2.cell? ⟨w.heap.size, 1, none⟩ = some (.int .i64 0) := blk_cell hx 1
  have q2 : w2.cell? ⟨w.heap.size, 2, none⟩ = some (.slice (some ⟨s, 0, none⟩) 1 cs) := blk_cell hx 2
  have q3 : w2.cell? ⟨w.heap.size, 3, none⟩ = some (.int .i64 1) := blk_cell hx 3
  have q4 : w2.cell? ⟨w.heap.size, 4, none⟩ = some (.slice none 0 0) := blk_cell hx 4
  have q5 : w2.cell? ⟨w.heap.size, 5, none⟩ = some (.slice none 0 0) := blk_cell hx 5
  have q6 : w2.cell? ⟨w.heap.size, 6, none⟩ = some (.slice (some ⟨e, 0, none⟩) 1 ce) := blk_cell hx 6
  clear hx
  have HM2 := Aside0.mk ((HM0.out.below HB1.out).below HB2.out)
  go_wp2_with fail
  refine wp_loop_rounds 1 ?_
  rw [rounds_succ]
  go_wp2_with fail
  refine (led_new _).mono ?_
  rintro ev w3 ⟨g, rfl, hg, hgs, hb⟩
  have HG := Aside0.mk hg
  have HGS := Aside0.mk hgs
  have HB3 := Aside0.mk hb
  clear hg hgs hb
  clear q0 q1 q2 q3 q4 q5 q6
  have hx := (HB3.out.block _ (blk_lt HX.out)).trans HX.out
  have HX := Aside0.mk hx
  have q0 : w3.cell? ⟨w.heap.size, 0, none⟩ = some (.int .i64 0) := blk_cell hx 0
  have q1 : w3.cell? ⟨w.heap.size, 1, none⟩ = some (.int .i64 0) := blk_cell hx 1
  have q2 : w3.cell? ⟨w.heap.size, 2, none⟩ = some (.slice (some ⟨s, 0, none⟩) 1 cs) := blk_cell hx 2
  have q3 : w3.cell? ⟨w.heap.size, 3, none⟩ = some (.int .i64 1) := blk_cell hx 3
  have q4 : w3.cell? ⟨w.heap.size, 4, none⟩ = some (.slice none 0 0) := blk_cell hx 4
  have q5 : w3.cell? ⟨w.heap.size, 5, none⟩ = some (.slice none 0 0) := blk_cell hx 5
  have q6 : w3.cell? ⟨w.heap.size, 6, none⟩ = some (.slice (some ⟨e, 0, none⟩) 1 ce) := blk_cell hx 6
  clear hx
  have HM3 := Aside0.mk (HM2.out.below HB3.out)
  go_wp2_with fail
  refine wp_loop_rounds 2 ?_
  rw [rounds_succ]
  have he := HM3.out.2.2.2
  have hone : Tryz.zeroCells81.all (·.oneCell') = true := by kernel_rfl
  go_wp2_with (first | (refine wpList_load_mid rfl 81 (.tmp 71) rfl e 0 rfl Tryz.zeroCells81.toList _ HM3.out.2.2.2 Tryz.underlying81 rfl (by kernel_rfl) ?_) | (refine wpList_store_row rfl 81 (.tmp 10) (.tmp 72) rfl w3.heap.size Tryz.zeroCells81 rfl rfl 81 Tryz.zeroCells81 (heap_alloc_new w3 _) (by rw [ents_size]; kernel_rfl) rfl hone ?_; rw [World.setRow_alloc_new]) | (refine wpList_load_row rfl 81 (.tmp 10) rfl w3.heap.size rfl 81 Tryz.zeroCells81 (0, 0) _ (heap_alloc_new w3 _) Tryz.underlying81 rfl (by rw [ents_size]; kernel_rfl) ?_))
  have hga : (w3.alloc (.cells Tryz.zeroCells81 81)).heap[g]? = some (.cells #[.slice none 0 0] 137 (0, 0)) := ((below_alloc (Below.refl w3.heap.size w3) _).block _ (blk_lt HG.out)).trans HG.out
  refine (led_add g _ hga).mono ?_
  rintro ev w4 ⟨rfl, hb⟩
  have HB4 := Aside0.mk (((below_alloc (Below.refl w3.heap.size w3) (.cells Tryz.zeroCells81 81)).mono (Nat.le_of_lt (blk_lt HG.out))).trans hb)
  clear hb hga
  go_wp2_with fail
  rw [rounds_succ]
  go_wp2_with fail
  go_ret
  have z0 := HB0.out.size
  have z1 := HB1.out.size
  have z2 := HB2.out.size
  have z3 := HGS.out
  exact ⟨rfl, HB0.out.trans ((HB1.out.mono z0).trans ((HB2.out.mono (by omega)).trans ((HB3.out.mono (by omega)).trans (HB4.out.mono (by omega)))))⟩
end Go.Proofs.YtjmhiklmlgbifaaGreatDoor.PMan
end
section
namespace Go.Proofs.YtjmhiklmlgbifaaGreatDoor.PMan
open Go.RowKit Go.Proofs.YtjmhiklmlgbifaaGreatDoorW.PrintWords Go.Proofs.YtjmhiklmlgbifaaGreatDoorW.PrintLast Go.Proofs.YtjmhiklmlgbifaaGreatDoorW.PrintMore
attribute [local go_sem] max2_int min2_int max_two min_two max_three min_three max_four min_four   -- for this text's walks alone
set_option linter.unusedVariables false
set_option linter.unusedSimpArgs false
def value_PutSchema.l0 : Nat → List Int → List (S123) → Int → Int → Option (List Int)
  | 0, _, _, _, _ => none
  | k + 1, x3, x11, x12, x13 => if x13 < x12 then (if 0 ≤ x13 then (if x13 < (x11.length : Int) then (if (rd_T123 x11 x13).f1 = true then ((some (([((rd_T123 x11 x13).f0) % 256, 1, (wrap64 (((rd_T123 x11 x13).f2) + 1)) % 256] : List Int) : List Int)).bind fun y119 => (if x3.length + y119.length < 140737488355328 then (value_PutSchema.l0 k (x3 ++ y119) x11 x12 (wrap64 (x13 + 1))) else (none))) else ((some (([((rd_T123 x11 x13).f0) % 256, 0, (wrap64 (((rd_T123 x11 x13).f2) + 1)) % 256] : List Int) : List Int)).bind fun y125 => (if x3.length + y125.length < 140737488355328 then (value_PutSchema.l0 k (x3 ++ y125) x11 x12 (wrap64 (x13 + 1))) else (none)))) else (none)) else (none)) else (some x3)
def value_PutSchema.f (k : Nat) (l0 : List (S123)) : Option (List Int) := value_PutSchema.l0 k (([((l0.length : Int)) % 256] : List Int)) l0 (l0.length : Int) 0
set_option maxHeartbeats 8000000 in
set_option maxRecDepth 100000 in
theorem value_PutSchema.calls (k : Nat) (A0 : Option Addr) (c0 : Nat) (l0 : List (S123)) (r : List Int) (w : World) (hr0 : Kd.C k123 w A0 l0.length l0) (hc0 : l0.length ≤ c0) (h : value_PutSchema.f k l0 = some r) :
    Calls Tryz.prog 30 #[.slice A0 l0.length c0] w fun e w' => ∃ v0_ : Value, e = .returned (v0_) ∧ Kd.R (Kd.int .u8) 5 w' w.heap.size (fun _ => True) v0_ r ∧ Below w.heap.size w w' := by
  have hu123 := Tryz.underlying123
  have HR0 := Aside0.mk hr0
  have HC0 := Aside0.mk hc0
  clear hr0 hc0
  have HB := Aside0.mk (Below.refl w.heap.size w)
  have H : (value_PutSchema.l0 k (([((l0.length : Int)) % 256] : List Int)) l0 (l0.length : Int) 0) = some r := h
  clear h
  obtain ⟨y114, hy114⟩ : ∃ y_ : List Int, y_ = (([((l0.length : Int)) % 256] : List Int)) := ⟨_, rfl⟩
  replace H : (value_PutSchema.l0 k y114 l0 (l0.length : Int) 0) = some r := by first | (rw [hy114]; with_reducible exact H) | (have H2_ := (Option.bind_some _ _).symm.trans H; rw [hy114]; with_reducible exact H2_) | (have H2_ := (Option.bind_some _ _).symm.trans H; with_reducible exact H2_) | with_reducible exact H | (rw [hy114]; exact H) | exact H
  have Ny114 := Aside0.mk hy114
  clear hy114
  have H' := Aside0.mk H
  clear H
  go_enter Tryz.func30, Tryz.ntmps30
  go_wp2_with (first | ((with_reducible refine gate_dst (N := 10) rfl ?_); refine Kd.R_lit (Kd.int .u8) _ 5 ?hg (N := 10) ?hd (xs := ([((l0.length : Int)) % 256] : List Int)) (inner := [.int .u8 (((l0.length : Int)) % 256)]) (ok := fun _ => True) (okp := fun _ => True) ?hr ?hp (fun _ hk => hk) trivial (Below.refl _ _) (Nat.le_refl _) (by simp) ?_; (case hd => rfl); (case hg => rfl); (case hr => first | (go_simp; done) | (go_simp; rfl)); (case hp => exact (Reps.one (show Kd.M (Kd.int .u8) _ _ _ (((l0.length : Int)) % 256) [.int .u8 (((l0.length : Int)) % 256)] from rfl) (Reps.none _ _))); intro v115 w2 ho3 hb hg_ hnew_; clear hg_ hnew_; (first | rw [← Ny114.out] at ho3 | (simp only [Int.reduceToNat] at ho3; rw [← Ny114.out] at ho3)); have n0_ := Aside0.mk (Kd.R_lower ho3 (below_size (by repeat (first | (with_reducible first | exact HB.out | apply below_alloc | apply pw_below_drewN | apply below_drew1) | exact HB.out)))); have n1_ := Aside0.mk (below_step (by repeat (first | (with_reducible first | exact HB.out | apply below_alloc | apply pw_below_drewN | apply below_drew1) | exact HB.out)) hb); clear HB; have HO116 := n0_; have HB := n1_; clear n0_ n1_; clear hb ho3))
  go_loopg [3, 13] k (fun kq v3 v13 w' => ∃ (x3_1 : List Int) (x13_1 : Int), v13 = .int .i64 x13_1 ∧ Aside0 (value_PutSchema.l0 kq x3_1 l0 (l0.length : Int) x13_1 = some r) ∧ Aside0 (kq ≤ k) ∧ Aside0 (Kd.R (Kd.int .u8) 5 w' w.heap.size (fun _ => True) v3 x3_1) ∧ Aside0 (Below w.heap.size w w'))
  case atStart => exact ⟨(y114), (0), (by first | rfl | (simp; done) | (simp [*]; done)), H', ⟨Nat.le_refl _⟩, ⟨by (with_reducible repeat (first | apply Kd.R_alloc | apply Kd.R_drewN | apply Kd.R_drew)); exact HO116.out⟩, ⟨by repeat (first | (with_reducible first | exact HB.out | apply below_alloc | apply pw_below_drewN | apply below_drew1) | exact HB.out)⟩⟩
  case round =>
    clear H'
    try clear p2
    try clear c3
    obtain ⟨x3_1, x13_1, rfl, HA, HK1, HO_3, HB⟩ := hrel
    cases gk with
    | zero => exact absurd HA.out (by simp [value_PutSchema.l0])
    | succ k1 =>
      have H := HA.out
      clear HA
      simp only [value_PutSchema.l0] at H
      by_cases c4 : x13_1 < (l0.length : Int)
      · rw [if_pos c4] at H
        have c4b0 : decide (x13_1 < (l0.length : Int)) = true := decide_eq_true c4
        clear c4
        by_cases c5 : 0 ≤ x13_1
        · rw [if_pos c5] at H
          have c5b0 : decide (0 ≤ x13_1) = true := decide_eq_true c5
          clear c5
          by_cases c6 : x13_1 < (l0.length : Int)
          · rw [if_pos c6] at H
            have c6b0 : decide (x13_1 < (l0.length : Int)) = true := decide_eq_true c6
            clear c6
            obtain ⟨bq7, hbq7⟩ : ∃ b_ : Bool, b_ = ((rd_T123 l0 x13_1).f1) := ⟨_, rfl⟩
            replace H : (if bq7 = true then ((some (([((rd_T123 l0 x13_1).f0) % 256, 1, (wrap64 (((rd_T123 l0 x13_1).f2) + 1)) % 256] : List Int) : List Int)).bind fun y119 => (if x3_1.length + y119.length < 140737488355328 then (value_PutSchema.l0 k1 (x3_1 ++ y119) l0 (l0.length : Int) (wrap64 (x13_1 + 1))) else (none))) else ((some (([((rd_T123 l0 x13_1).f0) % 256, 0, (wrap64 (((rd_T123 l0 x13_1).f2) + 1)) % 256] : List Int) : List Int)).bind fun y125 => (if x3_1.length + y125.length < 140737488355328 then (value_PutSchema.l0 k1 (x3_1 ++ y125) l0 (l0.length : Int) (wrap64 (x13_1 + 1))) else (none)))) = some r := by rw [← hbq7] at H; exact H
            have Nbq7 := Aside0.mk hbq7
            clear hbq7
            by_cases c8 : bq7 = true
            · subst c8
              have H1 : ((some (([((rd_T123 l0 x13_1).f0) % 256, 1, (wrap64 (((rd_T123 l0 x13_1).f2) + 1)) % 256] : List Int) : List Int)).bind fun y119 => (if x3_1.length + y119.length < 140737488355328 then (value_PutSchema.l0 k1 (x3_1 ++ y119) l0 (l0.length : Int) (wrap64 (x13_1 + 1))) else (none))) = some r := by rw [if_pos rfl] at H; exact H
              clear H
              have H := H1
              clear H1
              obtain ⟨y119, hy119⟩ : ∃ y_ : List Int, y_ = (([((rd_T123 l0 x13_1).f0) % 256, 1, (wrap64 (((rd_T123 l0 x13_1).f2) + 1)) % 256] : List Int)) := ⟨_, rfl⟩
              replace H : (if x3_1.length + y119.length < 140737488355328 then (value_PutSchema.l0 k1 (x3_1 ++ y119) l0 (l0.length : Int) (wrap64 (x13_1 + 1))) else (none)) = some r := by first | (rw [hy119]; with_reducible exact H) | (have H2_ := (Option.bind_some _ _).symm.trans H; rw [hy119]; with_reducible exact H2_) | (have H2_ := (Option.bind_some _ _).symm.trans H; with_reducible exact H2_) | with_reducible exact H | (rw [hy119]; exact H) | exact H
              have Ny119 := Aside0.mk hy119
              clear hy119
              by_cases c9 : x3_1.length + y119.length < 140737488355328
              · rw [if_pos c9] at H
                have LMc9 := Aside0.mk c9
                clear c9
                obtain ⟨y122, hy122⟩ : ∃ y_ : List Int, y_ = (x3_1 ++ y119) := ⟨_, rfl⟩
                replace H : (value_PutSchema.l0 k1 y122 l0 (l0.length : Int) (wrap64 (x13_1 + 1))) = some r := by first | (rw [hy122]; with_reducible exact H) | (have H2_ := (Option.bind_some _ _).symm.trans H; rw [hy122]; with_reducible exact H2_) | (have H2_ := (Option.bind_some _ _).symm.trans H; with_reducible exact H2_) | with_reducible exact H | (rw [hy122]; exact H) | exact H
                have Ny122 := Aside0.mk hy122
                clear hy122
                have H' := Aside0.mk H
                clear H
                have p117 : 0 ≤ (x13_1 : Int) := of_decide_eq_true (by first | (with_reducible assumption) | assumption)
                have q117 : x13_1 < (l0.length : Int) := of_decide_eq_true (by first | (with_reducible assumption) | assumption)
                obtain ⟨ad117, e117, hx117_0, hx117_1, hx117_2⟩ := at_T123 HR0.out x13_1 p117 q117
                (try rw [← Nbq7.out] at hx117_1)
                cases e117
                replace hx117_0 := (HB.out.cell (World.block_lt_of_cell? w _ hx117_0)).trans hx117_0
                replace hx117_1 := (HB.out.cell (World.block_lt_of_cell? w _ hx117_1)).trans hx117_1
                replace hx117_2 := (HB.out.cell (World.block_lt_of_cell? w _ hx117_2)).trans hx117_2
                replace p117 := eq_true p117
                replace q117 := eq_true q117
                go_wp2_with (first | ((with_reducible refine gate_dst (N := 5) rfl ?_); refine box_event ?hg (N := 5) ?hd (cs := #[.int .i64 0, .bool false, .int .i64 0]) (t := 123) ?hr ?_; (case hd => rfl); (case hg => rfl); (case hr => first | (go_simp; done) | (go_simp; rfl)); intro gb118 hg w10 hbox hb; have n0_ := Aside0.mk (Kd.R_below (by (with_reducible repeat (first | apply Kd.R_alloc | apply Kd.R_drewN | apply Kd.R_drew)); exact HO_3.out) hb); have n1_ := Aside0.mk (below_step (by repeat (first | (with_reducible first | exact HB.out | apply below_alloc | apply pw_below_drewN | apply below_drew1) | exact HB.out)) hb); have n2_ := Aside0.mk (hbox); have n3_ := Aside0.mk ((by rw [hg]; exact (below_size (by repeat (first | (with_reducible first | exact HB.out | apply below_alloc | apply pw_below_drewN | apply below_drew1) | exact HB.out))) : w.heap.size ≤ gb118)); have n4_ := Aside0.mk ((by rw [hg]; exact (below_size (by repeat (first | (with_reducible first | exact HB.out | apply below_alloc | apply pw_below_drewN | apply below_drew1) | exact HB.out))) : w.heap.size ≤ gb118)); clear HO_3; clear HB; have HO_3 := n0_; have HB := n1_; have BK118 := n2_; have GW118 := n3_; have GE118 := n4_; clear n0_ n1_ n2_ n3_ n4_; clear hb hbox hg; have hcz11_0 : w10.cell? ⟨gb118, 0, none⟩ = some (.int .i64 0) := (blk_cell BK118.out 0).trans rfl; have hcz11_1 : w10.cell? ⟨gb118, 1, none⟩ = some (.bool false) := (blk_cell BK118.out 1).trans rfl; have hcz11_2 : w10.cell? ⟨gb118, 2, none⟩ = some (.int .i64 0) := (blk_cell BK118.out 2).trans rfl; have hfz11_0 := blk_frozen BK118.out 0; have hfz11_1 := blk_frozen BK118.out 1; have hfz11_2 := blk_frozen BK118.out 2) | ((with_reducible refine gate_dst (N := 28) rfl ?_); refine Kd.R_lit (Kd.int .u8) _ 5 ?hg (N := 28) ?hd (xs := ([((rd_T123 l0 x13_1).f0) % 256, 1, (wrap64 (((rd_T123 l0 x13_1).f2) + 1)) % 256] : List Int)) (inner := [.int .u8 (((rd_T123 l0 x13_1).f0) % 256), .int .u8 1, .int .u8 ((wrap64 (((rd_T123 l0 x13_1).f2) + 1)) % 256)]) (ok := fun _ => True) (okp := fun _ => True) ?hr ?hp (fun _ hk => hk) trivial (Below.refl _ _) (Nat.le_refl _) (by simp) ?_; (case hd => rfl); (case hg => rfl); (case hr => first | (go_simp; done) | (go_simp; rfl)); (case hp => exact (Reps.one (show Kd.M (Kd.int .u8) _ _ _ (((rd_T123 l0 x13_1).f0) % 256) [.int .u8 (((rd_T123 l0 x13_1).f0) % 256)] from rfl) (Reps.one (show Kd.M (Kd.int .u8) _ _ _ 1 [.int .u8 1] from rfl) (Reps.one (show Kd.M (Kd.int .u8) _ _ _ ((wrap64 (((rd_T123 l0 x13_1).f2) + 1)) % 256) [.int .u8 ((wrap64 (((rd_T123 l0 x13_1).f2) + 1)) % 256)] from rfl) (Reps.none _ _))))); intro v120 w12 ho13 hb hg_ hnew_; clear hg_ hnew_; (first | rw [← Ny119.out] at ho13 | (simp only [Int.reduceToNat] at ho13; rw [← Ny119.out] at ho13)); have n0_ := Aside0.mk (Kd.R_elder' (by (with_reducible repeat (first | apply Kd.R_alloc | apply Kd.R_drewN | apply Kd.R_drew)); exact (Kd.R_mono (Kd.R_far (p := ⟨gb118, 2, none⟩) (Kd.R_far (p := ⟨gb118, 1, none⟩) (Kd.R_far (p := ⟨gb118, 0, none⟩) (Kd.R_types HO_3.out BK118.out (by decide)) (fun _ hk => hk.2) (.int .i64 ((rd_T123 l0 x13_1).f0))) (fun _ hk => hk.2) (.bool true)) (fun _ hk => hk.2) (.int .i64 ((rd_T123 l0 x13_1).f2))) (fun _ h_ => h_.1))) (Kd.R_base ho13) hb); have n1_ := Aside0.mk (Kd.R_lower (Kd.R_new' ho13 (Kd.R_lt (by (with_reducible repeat (first | apply Kd.R_alloc | apply Kd.R_drewN | apply Kd.R_drew)); exact (Kd.R_mono (Kd.R_far (p := ⟨gb118, 2, none⟩) (Kd.R_far (p := ⟨gb118, 1, none⟩) (Kd.R_far (p := ⟨gb118, 0, none⟩) (Kd.R_types HO_3.out BK118.out (by decide)) (fun _ hk => hk.2) (.int .i64 ((rd_T123 l0 x13_1).f0))) (fun _ hk => hk.2) (.bool true)) (fun _ hk => hk.2) (.int .i64 ((rd_T123 l0 x13_1).f2))) (fun _ h_ => h_.1))))) (below_size (by repeat (first | (with_reducible first | exact HB.out | apply below_alloc | apply pw_below_drewN | apply below_drew1 | refine below_set ?_ GE118.out) | exact HB.out)))); have n2_ := Aside0.mk (blk_below (g := gb118) (o := .cells #[.int .i64 ((rd_T123 l0 x13_1).f0), .bool true, .int .i64 ((rd_T123 l0 x13_1).f2)] 123 (0, 0)) (by (with_reducible repeat (first | refine blk_drewN ?_ _ | refine blk_drew ?_ | refine blk_alloc ?_ _)); refine blk_put (cs := #[.int .i64 ((rd_T123 l0 x13_1).f0), .bool true, .int .i64 0]) ?_ 2 _ rfl; (with_reducible repeat (first | refine blk_drewN ?_ _ | refine blk_drew ?_ | refine blk_alloc ?_ _)); refine blk_put (cs := #[.int .i64 ((rd_T123 l0 x13_1).f0), .bool false, .int .i64 0]) ?_ 1 _ rfl; (with_reducible repeat (first | refine blk_drewN ?_ _ | refine blk_drew ?_ | refine blk_alloc ?_ _)); refine blk_put (cs := #[.int .i64 0, .bool false, .int .i64 0]) ?_ 0 _ rfl; (with_reducible repeat (first | refine blk_drewN ?_ _ | refine blk_drew ?_ | refine blk_alloc ?_ _)); exact BK118.out) hb); have n3_ := Aside0.mk (below_step (by repeat (first | (with_reducible first | exact HB.out | apply below_alloc | apply pw_below_drewN | apply below_drew1 | refine below_set ?_ GE118.out) | exact HB.out)) hb); clear HO_3; clear BK118; clear HB; have HO_3 := n0_; have HO121 := n1_; have BK118 := n2_; have HB := n3_; clear n0_ n1_ n2_ n3_; clear hb ho13; obtain ⟨Ao15, co15, eo15⟩ := Kd.R_slice HO121.out; subst eo15) | ((with_reducible refine gate_builtin (b := .append) (xs := #[.tmp 19, .tmp 28]) rfl ?_); at_builtin; refine Kd.R_append_rows (Kd.int .u8) (w0 := w) w.heap.size rfl (.tmp 19) (.tmp 28) 30 5 (.int .u8 0) 1 rfl Tryz.underlying30 info5 rfl (by decide) (by omega) u3 x3_1 y119 _ _ _ (fun k_ => some k_ ≠ (.slice Ao15 y119.length co15 : Value).ownBlock) (fun _ => False) rfl rfl ?aO ?aR (fun _ _ h => h) (fun _ h => h.elim) ?aF ?aB ?aS ?aL ?_; (case aR => repeat (first | exact (Kd.R_reads' HO121.out).2.2 | (with_reducible refine Kd.C_alloc ?_ _) | (with_reducible refine Kd.C_drewN ?_ _) | (with_reducible refine Kd.C_drew ?_))); (case aB => exact (by repeat (first | (with_reducible first | exact HB.out | apply below_alloc | apply pw_below_drewN | apply below_drew1 | refine below_set ?_ GE118.out) | exact HB.out))); (case aF => exact (fun k_ hk => Kd.fresh' (Kd.R_lt (by (with_reducible repeat (first | apply Kd.R_alloc | apply Kd.R_drewN | apply Kd.R_drew)); exact HO121.out)) k_ hk)); (case aO => exact (by (with_reducible repeat (first | apply Kd.R_alloc | apply Kd.R_drewN | apply Kd.R_drew)); exact Kd.R_mono HO_3.out (fun _ hk => hk.2))); (case aS => exact (below_size (by repeat (first | (with_reducible first | exact HB.out | apply below_alloc | apply pw_below_drewN | apply below_drew1 | refine below_set ?_ GE118.out) | exact HB.out)))); (case aL => have := LMc9.out; omega); intro v123 w14 ho hb hg hat; rw [← Ny122.out] at ho; have n0_ := Aside0.mk (blk_grown (g := gb118) (o := .cells #[.int .i64 ((rd_T123 l0 x13_1).f0), .bool true, .int .i64 ((rd_T123 l0 x13_1).f2)] 123 (0, 0)) (by (with_reducible repeat (first | refine blk_drewN ?_ _ | refine blk_drew ?_ | refine blk_alloc ?_ _)); exact BK118.out) hg (Kd.R_ne HO_3.out BK118.out (by decide))); have n1_ := Aside0.mk (Kd.R_after (ok := (fun _ => True)) (by (with_reducible repeat (first | apply Kd.R_alloc | apply Kd.R_drewN | apply Kd.R_drew)); exact HO121.out) hg hat); have n2_ := Aside0.mk (hb); have n3_ := Aside0.mk (ho); clear BK118; clear HO121; clear HB; clear HO_3; have BK118 := n0_; have HO121 := n1_; have HB := n2_; have HO124 := n3_; clear n0_ n1_ n2_ n3_; clear ho hb hg hat))
                go_roundg k1
                case measure => have := HK1.out; omega
                case rel => exact ⟨(y122), (wrap64 (x13_1 + 1)), (by first | rfl | (simp; done) | (simp [*]; done)), H', ⟨by have := HK1.out; omega⟩, ⟨by (with_reducible repeat (first | apply Kd.R_alloc | apply Kd.R_drewN | apply Kd.R_drew)); exact Kd.R_mono HO124.out (fun _ hk => trivial)⟩, ⟨by repeat (first | (with_reducible first | exact HB.out | apply below_alloc | apply pw_below_drewN | apply below_drew1 | refine below_set ?_ GE118.out) | exact HB.out)⟩⟩
              · rw [if_neg c9] at H
                exact absurd H (by simp)
            · replace c8 := Bool.eq_false_iff.mpr c8
              subst c8
              have H1 : ((some (([((rd_T123 l0 x13_1).f0) % 256, 0, (wrap64 (((rd_T123 l0 x13_1).f2) + 1)) % 256] : List Int) : List Int)).bind fun y125 => (if x3_1.length + y125.length < 140737488355328 then (value_PutSchema.l0 k1 (x3_1 ++ y125) l0 (l0.length : Int) (wrap64 (x13_1 + 1))) else (none))) = some r := by rw [if_neg (show ¬ (false = true) by decide)] at H; exact H
              clear H
              have H := H1
              clear H1
              obtain ⟨y125, hy125⟩ : ∃ y_ : List Int, y_ = (([((rd_T123 l0 x13_1).f0) % 256, 0, (wrap64 (((rd_T123 l0 x13_1).f2) + 1)) % 256] : List Int)) := ⟨_, rfl⟩
              replace H : (if x3_1.length + y125.length < 140737488355328 then (value_PutSchema.l0 k1 (x3_1 ++ y125) l0 (l0.length : Int) (wrap64 (x13_1 + 1))) else (none)) = some r := by first | (rw [hy125]; with_reducible exact H) | (have H2_ := (Option.bind_some _ _).symm.trans H; rw [hy125]; with_reducible exact H2_) | (have H2_ := (Option.bind_some _ _).symm.trans H; with_reducible exact H2_) | with_reducible exact H | (rw [hy125]; exact H) | exact H
              have Ny125 := Aside0.mk hy125
              clear hy125
              by_cases c16 : x3_1.length + y125.length < 140737488355328
              · rw [if_pos c16] at H
                have LMc16 := Aside0.mk c16
                clear c16
                obtain ⟨y128, hy128⟩ : ∃ y_ : List Int, y_ = (x3_1 ++ y125) := ⟨_, rfl⟩
                replace H : (value_PutSchema.l0 k1 y128 l0 (l0.length : Int) (wrap64 (x13_1 + 1))) = some r := by first | (rw [hy128]; with_reducible exact H) | (have H2_ := (Option.bind_some _ _).symm.trans H; rw [hy128]; with_reducible exact H2_) | (have H2_ := (Option.bind_some _ _).symm.trans H; with_reducible exact H2_) | with_reducible exact H | (rw [hy128]; exact H) | exact H
                have Ny128 := Aside0.mk hy128
                clear hy128
                have H' := Aside0.mk H
                clear H
                have p117 : 0 ≤ (x13_1 : Int) := of_decide_eq_true (by first | (with_reducible assumption) | assumption)
                have q117 : x13_1 < (l0.length : Int) := of_decide_eq_true (by first | (with_reducible assumption) | assumption)
                obtain ⟨ad117, e117, hx117_0, hx117_1, hx117_2⟩ := at_T123 HR0.out x13_1 p117 q117
                (try rw [← Nbq7.out] at hx117_1)
                cases e117
                replace hx117_0 := (HB.out.cell (World.block_lt_of_cell? w _ hx117_0)).trans hx117_0
                replace hx117_1 := (HB.out.cell (World.block_lt_of_cell? w _ hx117_1)).trans hx117_1
                replace hx117_2 := (HB.out.cell (World.block_lt_of_cell? w _ hx117_2)).trans hx117_2
                replace p117 := eq_true p117
                replace q117 := eq_true q117
                go_wp2_with (first | ((with_reducible refine gate_dst (N := 5) rfl ?_); refine box_event ?hg (N := 5) ?hd (cs := #[.int .i64 0, .bool false, .int .i64 0]) (t := 123) ?hr ?_; (case hd => rfl); (case hg => rfl); (case hr => first | (go_simp; done) | (go_simp; rfl)); intro gb118 hg w17 hbox hb; have n0_ := Aside0.mk (Kd.R_below (by (with_reducible repeat (first | apply Kd.R_alloc | apply Kd.R_drewN | apply Kd.R_drew)); exact HO_3.out) hb); have n1_ := Aside0.mk (below_step (by repeat (first | (with_reducible first | exact HB.out | apply below_alloc | apply pw_below_drewN | apply below_drew1) | exact HB.out)) hb); have n2_ := Aside0.mk (hbox); have n3_ := Aside0.mk ((by rw [hg]; exact (below_size (by repeat (first | (with_reducible first | exact HB.out | apply below_alloc | apply pw_below_drewN | apply below_drew1) | exact HB.out))) : w.heap.size ≤ gb118)); have n4_ := Aside0.mk ((by rw [hg]; exact (below_size (by repeat (first | (with_reducible first | exact HB.out | apply below_alloc | apply pw_below_drewN | apply below_drew1) | exact HB.out))) : w.heap.size ≤ gb118)); clear HO_3; clear HB; have HO_3 := n0_; have HB := n1_; have BK118 := n2_; have GW118 := n3_; have GE118 := n4_; clear n0_ n1_ n2_ n3_ n4_; clear hb hbox hg; have hcz18_0 : w17.cell? ⟨gb118, 0, none⟩ = some (.int .i64 0) := (blk_cell BK118.out 0).trans rfl; have hcz18_1 : w17.cell? ⟨gb118, 1, none⟩ = some (.bool false) := (blk_cell BK118.out 1).trans rfl; have hcz18_2 : w17.cell? ⟨gb118, 2, none⟩ = some (.int .i64 0) := (blk_cell BK118.out 2).trans rfl; have hfz18_0 := blk_frozen BK118.out 0; have hfz18_1 := blk_frozen BK118.out 1; have hfz18_2 := blk_frozen BK118.out 2) | ((with_reducible refine gate_dst (N := 28) rfl ?_); refine Kd.R_lit (Kd.int .u8) _ 5 ?hg (N := 28) ?hd (xs := ([((rd_T123 l0 x13_1).f0) % 256, 0, (wrap64 (((rd_T123 l0 x13_1).f2) + 1)) % 256] : List Int)) (inner := [.int .u8 (((rd_T123 l0 x13_1).f0) % 256), .int .u8 0, .int .u8 ((wrap64 (((rd_T123 l0 x13_1).f2) + 1)) % 256)]) (ok := fun _ => True) (okp := fun _ => True) ?hr ?hp (fun _ hk => hk) trivial (Below.refl _ _) (Nat.le_refl _) (by simp) ?_; (case hd => rfl); (case hg => rfl); (case hr => first | (go_simp; done) | (go_simp; rfl)); (case hp => exact (Reps.one (show Kd.M (Kd.int .u8) _ _ _ (((rd_T123 l0 x13_1).f0) % 256) [.int .u8 (((rd_T123 l0 x13_1).f0) % 256)] from rfl) (Reps.one (show Kd.M (Kd.int .u8) _ _ _ 0 [.int .u8 0] from rfl) (Reps.one (show Kd.M (Kd.int .u8) _ _ _ ((wrap64 (((rd_T123 l0 x13_1).f2) + 1)) % 256) [.int .u8 ((wrap64 (((rd_T123 l0 x13_1).f2) + 1)) % 256)] from rfl) (Reps.none _ _))))); intro v126 w19 ho20 hb hg_ hnew_; clear hg_ hnew_; (first | rw [← Ny125.out] at ho20 | (simp only [Int.reduceToNat] at ho20; rw [← Ny125.out] at ho20)); have n0_ := Aside0.mk (Kd.R_elder' (by (with_reducible repeat (first | apply Kd.R_alloc | apply Kd.R_drewN | apply Kd.R_drew)); exact (Kd.R_mono (Kd.R_far (p := ⟨gb118, 2, none⟩) (Kd.R_far (p := ⟨gb118, 1, none⟩) (Kd.R_far (p := ⟨gb118, 0, none⟩) (Kd.R_types HO_3.out BK118.out (by decide)) (fun _ hk => hk.2) (.int .i64 ((rd_T123 l0 x13_1).f0))) (fun _ hk => hk.2) (.bool false)) (fun _ hk => hk.2) (.int .i64 ((rd_T123 l0 x13_1).f2))) (fun _ h_ => h_.1))) (Kd.R_base ho20) hb); have n1_ := Aside0.mk (Kd.R_lower (Kd.R_new' ho20 (Kd.R_lt (by (with_reducible repeat (first | apply Kd.R_alloc | apply Kd.R_drewN | apply Kd.R_drew)); exact (Kd.R_mono (Kd.R_far (p := ⟨gb118, 2, none⟩) (Kd.R_far (p := ⟨gb118, 1, none⟩) (Kd.R_far (p := ⟨gb118, 0, none⟩) (Kd.R_types HO_3.out BK118.out (by decide)) (fun _ hk => hk.2) (.int .i64 ((rd_T123 l0 x13_1).f0))) (fun _ hk => hk.2) (.bool false)) (fun _ hk => hk.2) (.int .i64 ((rd_T123 l0 x13_1).f2))) (fun _ h_ => h_.1))))) (below_size (by repeat (first | (with_reducible first | exact HB.out | apply below_alloc | apply pw_below_drewN | apply below_drew1 | refine below_set ?_ GE118.out) | exact HB.out)))); have n2_ := Aside0.mk (blk_below (g := gb118) (o := .cells #[.int .i64 ((rd_T123 l0 x13_1).f0), .bool false, .int .i64 ((rd_T123 l0 x13_1).f2)] 123 (0, 0)) (by (with_reducible repeat (first | refine blk_drewN ?_ _ | refine blk_drew ?_ | refine blk_alloc ?_ _)); refine blk_put (cs := #[.int .i64 ((rd_T123 l0 x13_1).f0), .bool false, .int .i64 0]) ?_ 2 _ rfl; (with_reducible repeat (first | refine blk_drewN ?_ _ | refine blk_drew ?_ | refine blk_alloc ?_ _)); refine blk_put (cs := #[.int .i64 ((rd_T123 l0 x13_1).f0), .bool false, .int .i64 0]) ?_ 1 _ rfl; (with_reducible repeat (first | refine blk_drewN ?_ _ | refine blk_drew ?_ | refine blk_alloc ?_ _)); refine blk_put (cs := #[.int .i64 0, .bool false, .int .i64 0]) ?_ 0 _ rfl; (with_reducible repeat (first | refine blk_drewN ?_ _ | refine blk_drew ?_ | refine blk_alloc ?_ _)); exact BK118.out) hb); have n3_ := Aside0.mk (below_step (by repeat (first | (with_reducible first | exact HB.out | apply below_alloc | apply pw_below_drewN | apply below_drew1 | refine below_set ?_ GE118.out) | exact HB.out)) hb); clear HO_3; clear BK118; clear HB; have HO_3 := n0_; have HO127 := n1_; have BK118 := n2_; have HB := n3_; clear n0_ n1_ n2_ n3_; clear hb ho20; obtain ⟨Ao22, co22, eo22⟩ := Kd.R_slice HO127.out; subst eo22) | ((with_reducible refine gate_builtin (b := .append) (xs := #[.tmp 19, .tmp 28]) rfl ?_); at_builtin; refine Kd.R_append_rows (Kd.int .u8) (w0 := w) w.heap.size rfl (.tmp 19) (.tmp 28) 30 5 (.int .u8 0) 1 rfl Tryz.underlying30 info5 rfl (by decide) (by omega) u3 x3_1 y125 _ _ _ (fun k_ => some k_ ≠ (.slice Ao22 y125.length co22 : Value).ownBlock) (fun _ => False) rfl rfl ?aO ?aR (fun _ _ h => h) (fun _ h => h.elim) ?aF ?aB ?aS ?aL ?_; (case aR => repeat (first | exact (Kd.R_reads' HO127.out).2.2 | (with_reducible refine Kd.C_alloc ?_ _) | (with_reducible refine Kd.C_drewN ?_ _) | (with_reducible refine Kd.C_drew ?_))); (case aB => exact (by repeat (first | (with_reducible first | exact HB.out | apply below_alloc | apply pw_below_drewN | apply below_drew1 | refine below_set ?_ GE118.out) | exact HB.out))); (case aF => exact (fun k_ hk => Kd.fresh' (Kd.R_lt (by (with_reducible repeat (first | apply Kd.R_alloc | apply Kd.R_drewN | apply Kd.R_drew)); exact HO127.out)) k_ hk)); (case aO => exact (by (with_reducible repeat (first | apply Kd.R_alloc | apply Kd.R_drewN | apply Kd.R_drew)); exact Kd.R_mono HO_3.out (fun _ hk => hk.2))); (case aS => exact (below_size (by repeat (first | (with_reducible first | exact HB.out | apply below_alloc | apply pw_below_drewN | apply below_drew1 | refine below_set ?_ GE118.out) | exact HB.out)))); (case aL => have := LMc16.out; omega); intro v129 w21 ho hb hg hat; rw [← Ny128.out] at ho; have n0_ := Aside0.mk (blk_grown (g := gb118) (o := .cells #[.int .i64 ((rd_T123 l0 x13_1).f0), .bool false, .int .i64 ((rd_T123 l0 x13_1).f2)] 123 (0, 0)) (by (with_reducible repeat (first | refine blk_drewN ?_ _ | refine blk_drew ?_ | refine blk_alloc ?_ _)); exact BK118.out) hg (Kd.R_ne HO_3.out BK118.out (by decide))); have n1_ := Aside0.mk (Kd.R_after (ok := (fun _ => True)) (by (with_reducible repeat (first | apply Kd.R_alloc | apply Kd.R_drewN | apply Kd.R_drew)); exact HO127.out) hg hat); have n2_ := Aside0.mk (hb); have n3_ := Aside0.mk (ho); clear BK118; clear HO127; clear HB; clear HO_3; have BK118 := n0_; have HO127 := n1_; have HB := n2_; have HO130 := n3_; clear n0_ n1_ n2_ n3_; clear ho hb hg hat))
                go_roundg k1
                case measure => have := HK1.out; omega
                case rel => exact ⟨(y128), (wrap64 (x13_1 + 1)), (by first | rfl | (simp; done) | (simp [*]; done)), H', ⟨by have := HK1.out; omega⟩, ⟨by (with_reducible repeat (first | apply Kd.R_alloc | apply Kd.R_drewN | apply Kd.R_drew)); exact Kd.R_mono HO130.out (fun _ hk => trivial)⟩, ⟨by repeat (first | (with_reducible first | exact HB.out | apply below_alloc | apply pw_below_drewN | apply below_drew1 | refine below_set ?_ GE118.out) | exact HB.out)⟩⟩
              · rw [if_neg c16] at H
                exact absurd H (by simp)
          · rw [if_neg c6] at H
            exact absurd H (by simp)
        · rw [if_neg c5] at H
          exact absurd H (by simp)
      · rw [if_neg c4] at H
        have c4b0 : decide (x13_1 < (l0.length : Int)) = false := decide_eq_false c4
        clear c4
        obtain rfl := Option.some.inj H
        go_wp2
        go_ret
        exact ⟨_, by first | rfl | (simp [errW_none, errW_some] <;> rfl) | (simp [*, errW_none, errW_some] <;> rfl), by (with_reducible repeat (first | apply Kd.R_alloc | apply Kd.R_drewN | apply Kd.R_drew)); exact HO_3.out, by repeat (first | (with_reducible first | exact HB.out | apply below_alloc | apply pw_below_drewN | apply below_drew1) | exact HB.out)⟩
end Go.Proofs.YtjmhiklmlgbifaaGreatDoor.PMan
end

-- Printed for this claim by a program of this session's own (it runs the kit's print another way): Lean checks it.
import Derived.Test.YtibdikihgdkfnaaGreatDoorPStox0
import Derived.Test.YtibdikihgdkfnaaGreatDoorPStox13
import Derived.Test.YtibdikihgdkfnaaGreatDoorPStoFe
import Derived.Test.YtibdikihgdkfnaaGreatDoorPStox27
namespace Go.Proofs.YtibdikihgdkfnaaGreatDoor.PSto
open Go.RowKit Go.Proofs.YtibdikihgdkfnaaGreatDoorW.PrintWords Go.Proofs.YtibdikihgdkfnaaGreatDoorW.PrintLast Go.Proofs.YtibdikihgdkfnaaGreatDoorW.PrintMore
attribute [local go_sem] max2_int min2_int max_two min_two max_three min_three max_four min_four   -- for this text's walks alone
set_option linter.unusedVariables false
set_option linter.unusedSimpArgs false

/-! ### frame_Get: function 116 -/
/-- frame.Get: a frame's part, how many bytes the frame has, and 0; or an error's number. -/
def frame_Get.f (l : List Int) : Option (List Int × Int × Int) :=
  (frame_read.f l).bind fun r => if r.2 = 0 then some (r.1, wrap64 (8 + (r.1.length : Int)), 0) else if r.2 = 12 ∨ r.2 = 2 ∨ r.2 = 6 then some ([], 0, r.2) else none
set_option maxHeartbeats 4000000 in
set_option maxRecDepth 100000 in
theorem frame_get_a (A0 : Option Addr) (c0 : Nat) (l : List Int) (p : List Int) (w : World) (hr0 : Kd.C (Kd.int .u8) w A0 l.length l) (hc0 : l.length ≤ c0) (hG : ErrT w) (h : frame_read.f l = some (p, 12)) :
    Calls Tryz.prog 116 #[.slice A0 l.length c0] w fun e w' => e = .returned (.tuple #[.slice none 0 0, .int .i64 0, .int .i64 12]) ∧ Below w.heap.size w w' := by
  have HR := Aside0.mk hr0
  have HC := Aside0.mk hc0
  have HGL := Aside0.mk hG
  have H := Aside0.mk h
  clear hr0 hc0 hG h
  go_enter Tryz.func116, Tryz.ntmps116
  go_wp2_with fail
  refine (frame_read_calls A0 c0 l p 12 _ HR.out HC.out HGL.out H.out).mono ?_
  rintro e w1 ⟨v, rfl, hr, hb⟩
  rw [show brokenW 12 = .iface 306 (.agg #[.iface 31 (.int .i64 12)]) from rfl]
  obtain ⟨Av, cv, rfl⟩ := Kd.R_slice hr
  have HRV := Aside0.mk hr
  have HW := Aside0.mk hb
  clear hr hb
  go_wp2_with fail
  refine wp_loop_rounds 4 ?_
  rw [rounds_succ]
  go_wp2_with fail
  refine (is_broken 12 12 _).mono ?_
  rintro e w2 ⟨rfl, hb⟩
  rw [show ((12 : Int) == 12) = true from by decide]
  have x0 := (hb.block w1.heap.size (by simp)).trans (heap_alloc_new w1 (.cells #[.int .i64 12, .int .i64 2, .int .i64 6] 31))
  have HW0 := Aside0.mk (below_step (below_alloc HW.out (.cells #[.int .i64 12, .int .i64 2, .int .i64 6] 31)) hb)
  have c00 := blk_cell x0 0
  have c10 := blk_cell x0 1
  have c20 := blk_cell x0 2
  simp only [List.getElem?_toArray] at c00 c10 c20
  have X0 := Aside0.mk x0
  clear hb x0
  go_wp2
  refine bodyPost_ret (v := .tuple #[.slice none 0 0, .int .i64 0, .int .i64 12]) ?_ rfl ⟨rfl, HW0.out⟩
  simp [results, Tryz.results116, go_sem]
set_option maxHeartbeats 4000000 in
set_option maxRecDepth 100000 in
theorem frame_get_b (A0 : Option Addr) (c0 : Nat) (l : List Int) (p : List Int) (w : World) (hr0 : Kd.C (Kd.int .u8) w A0 l.length l) (hc0 : l.length ≤ c0) (hG : ErrT w) (h : frame_read.f l = some (p, 2)) :
    Calls Tryz.prog 116 #[.slice A0 l.length c0] w fun e w' => e = .returned (.tuple #[.slice none 0 0, .int .i64 0, .int .i64 2]) ∧ Below w.heap.size w w' := by
  have HR := Aside0.mk hr0
  have HC := Aside0.mk hc0
  have HGL := Aside0.mk hG
  have H := Aside0.mk h
  clear hr0 hc0 hG h
  go_enter Tryz.func116, Tryz.ntmps116
  go_wp2_with fail
  refine (frame_read_calls A0 c0 l p 2 _ HR.out HC.out HGL.out H.out).mono ?_
  rintro e w1 ⟨v, rfl, hr, hb⟩
  rw [show brokenW 2 = .iface 306 (.agg #[.iface 31 (.int .i64 2)]) from rfl]
  obtain ⟨Av, cv, rfl⟩ := Kd.R_slice hr
  have HRV := Aside0.mk hr
  have HW := Aside0.mk hb
  clear hr hb
  go_wp2_with fail
  refine wp_loop_rounds 4 ?_
  rw [rounds_succ]
  go_wp2_with fail
  refine (is_broken 2 12 _).mono ?_
  rintro e w2 ⟨rfl, hb⟩
  rw [show ((2 : Int) == 12) = false from by decide]
  have x0 := (hb.block w1.heap.size (by simp)).trans (heap_alloc_new w1 (.cells #[.int .i64 12, .int .i64 2, .int .i64 6] 31))
  have HW0 := Aside0.mk (below_step (below_alloc HW.out (.cells #[.int .i64 12, .int .i64 2, .int .i64 6] 31)) hb)
  have c00 := blk_cell x0 0
  have c10 := blk_cell x0 1
  have c20 := blk_cell x0 2
  simp only [List.getElem?_toArray] at c00 c10 c20
  have X0 := Aside0.mk x0
  clear hb x0
  go_wp2_with fail
  rw [rounds_succ]
  go_wp2_with fail
  refine (is_broken 2 2 _).mono ?_
  rintro e w3 ⟨rfl, hb⟩
  rw [show ((2 : Int) == 2) = true from by decide]
  have x1 := (hb.block w1.heap.size (blk_lt X0.out)).trans X0.out
  have HW1 := Aside0.mk (below_step HW0.out hb)
  have c01 := blk_cell x1 0
  have c11 := blk_cell x1 1
  have c21 := blk_cell x1 2
  simp only [List.getElem?_toArray] at c01 c11 c21
  have X1 := Aside0.mk x1
  clear hb x1
  go_wp2
  refine bodyPost_ret (v := .tuple #[.slice none 0 0, .int .i64 0, .int .i64 2]) ?_ rfl ⟨rfl, HW1.out⟩
  simp [results, Tryz.results116, go_sem]
set_option maxHeartbeats 4000000 in
set_option maxRecDepth 100000 in
theorem frame_get_c (A0 : Option Addr) (c0 : Nat) (l : List Int) (p : List Int) (w : World) (hr0 : Kd.C (Kd.int .u8) w A0 l.length l) (hc0 : l.length ≤ c0) (hG : ErrT w) (h : frame_read.f l = some (p, 6)) :
    Calls Tryz.prog 116 #[.slice A0 l.length c0] w fun e w' => e = .returned (.tuple #[.slice none 0 0, .int .i64 0, .int .i64 6]) ∧ Below w.heap.size w w' := by
  have HR := Aside0.mk hr0
  have HC := Aside0.mk hc0
  have HGL := Aside0.mk hG
  have H := Aside0.mk h
  clear hr0 hc0 hG h
  go_enter Tryz.func116, Tryz.ntmps116
  go_wp2_with fail
  refine (frame_read_calls A0 c0 l p 6 _ HR.out HC.out HGL.out H.out).mono ?_
  rintro e w1 ⟨v, rfl, hr, hb⟩
  rw [show brokenW 6 = .iface 306 (.agg #[.iface 31 (.int .i64 6)]) from rfl]
  obtain ⟨Av, cv, rfl⟩ := Kd.R_slice hr
  have HRV := Aside0.mk hr
  have HW := Aside0.mk hb
  clear hr hb
  go_wp2_with fail
  refine wp_loop_rounds 4 ?_
  rw [rounds_succ]
  go_wp2_with fail
  refine (is_broken 6 12 _).mono ?_
  rintro e w2 ⟨rfl, hb⟩
  rw [show ((6 : Int) == 12) = false from by decide]
  have x0 := (hb.block w1.heap.size (by simp)).trans (heap_alloc_new w1 (.cells #[.int .i64 12, .int .i64 2, .int .i64 6] 31))
  have HW0 := Aside0.mk (below_step (below_alloc HW.out (.cells #[.int .i64 12, .int .i64 2, .int .i64 6] 31)) hb)
  have c00 := blk_cell x0 0
  have c10 := blk_cell x0 1
  have c20 := blk_cell x0 2
  simp only [List.getElem?_toArray] at c00 c10 c20
  have X0 := Aside0.mk x0
  clear hb x0
  go_wp2_with fail
  rw [rounds_succ]
  go_wp2_with fail
  refine (is_broken 6 2 _).mono ?_
  rintro e w3 ⟨rfl, hb⟩
  rw [show ((6 : Int) == 2) = false from by decide]
  have x1 := (hb.block w1.heap.size (blk_lt X0.out)).trans X0.out
  have HW1 := Aside0.mk (below_step HW0.out hb)
  have c01 := blk_cell x1 0
  have c11 := blk_cell x1 1
  have c21 := blk_cell x1 2
  simp only [List.getElem?_toArray] at c01 c11 c21
  have X1 := Aside0.mk x1
  clear hb x1
  go_wp2_with fail
  rw [rounds_succ]
  go_wp2_with fail
  refine (is_broken 6 6 _).mono ?_
  rintro e w4 ⟨rfl, hb⟩
  rw [show ((6 : Int) == 6) = true from by decide]
  have x2 := (hb.block w1.heap.size (blk_lt X1.out)).trans X1.out
  have HW2 := Aside0.mk (below_step HW1.out hb)
  have c02 := blk_cell x2 0
  have c12 := blk_cell x2 1
  have c22 := blk_cell x2 2
  simp only [List.getElem?_toArray] at c02 c12 c22
  have X2 := Aside0.mk x2
  clear hb x2
  go_wp2
  refine bodyPost_ret (v := .tuple #[.slice none 0 0, .int .i64 0, .int .i64 6]) ?_ rfl ⟨rfl, HW2.out⟩
  simp [results, Tryz.results116, go_sem]
set_option maxHeartbeats 4000000 in
set_option maxRecDepth 100000 in
theorem frame_get_ok (A0 : Option Addr) (c0 : Nat) (l : List Int) (p : List Int) (w : World) (hr0 : Kd.C (Kd.int .u8) w A0 l.length l) (hc0 : l.length ≤ c0) (hG : ErrT w) (h : frame_read.f l = some (p, 0)) :
    Calls Tryz.prog 116 #[.slice A0 l.length c0] w fun e w' => ∃ v, e = .returned (.tuple #[v, .int .i64 (wrap64 (8 + (p.length : Int))), .int .i64 0]) ∧ Kd.R (Kd.int .u8) 5 w' w.heap.size (fun _ => True) v p ∧ Below w.heap.size w w' := by
  have HR := Aside0.mk hr0
  have HC := Aside0.mk hc0
  have HGL := Aside0.mk hG
  have H := Aside0.mk h
  clear hr0 hc0 hG h
  go_enter Tryz.func116, Tryz.ntmps116
  go_wp2_with fail
  refine (frame_read_calls A0 c0 l p 0 _ HR.out HC.out HGL.out H.out).mono ?_
  rintro e w1 ⟨v, rfl, hr, hb⟩
  rw [show brokenW 0 = .nilIface from rfl]
  obtain ⟨Av, cv, rfl⟩ := Kd.R_slice hr
  have HRV := Aside0.mk hr
  have HW := Aside0.mk hb
  clear hr hb
  go_wp2_with fail
  refine wp_loop_rounds 4 ?_
  rw [rounds_succ]
  go_wp2_with fail
  refine (is_nil 12 _).mono ?_
  rintro e w' ⟨rfl, rfl⟩
  go_wp2_with fail
  rw [rounds_succ]
  go_wp2_with fail
  refine (is_nil 2 _).mono ?_
  rintro e w' ⟨rfl, rfl⟩
  go_wp2_with fail
  rw [rounds_succ]
  go_wp2_with fail
  refine (is_nil 6 _).mono ?_
  rintro e w' ⟨rfl, rfl⟩
  go_wp2_with fail
  rw [rounds_succ]
  go_wp2_with fail
  refine bodyPost_ret (v := .tuple #[.slice Av p.length cv, .int .i64 (wrap64 (8 + (p.length : Int))), .int .i64 0]) ?_ rfl ⟨_, rfl, Kd.R_alloc HRV.out _, below_alloc HW.out _⟩
  simp [results, Tryz.results116, go_sem]
theorem frame_Get.calls (A0 : Option Addr) (c0 : Nat) (l0 : List Int) (r1 : List Int) (r2 r3 : Int) (w : World) (hr0 : Kd.C (Kd.int .u8) w A0 l0.length l0) (hc0 : l0.length ≤ c0) (hG : ErrT w) (h : frame_Get.f l0 = some (r1, r2, r3)) :
    Calls Tryz.prog 116 #[.slice A0 l0.length c0] w fun e w' => ∃ v0_ : Value, e = .returned (.tuple #[v0_, .int .i64 r2, .int .i64 r3]) ∧ Kd.R (Kd.int .u8) 5 w' w.heap.size (fun _ => True) v0_ r1 ∧ Below w.heap.size w w' := by
  unfold frame_Get.f at h
  obtain ⟨⟨p, c⟩, h1, h⟩ := Option.bind_eq_some_iff.mp h
  simp only at h
  by_cases hc : c = 0
  · rw [if_pos hc] at h
    have h := Option.some.inj h
    simp only [Prod.mk.injEq] at h
    obtain ⟨rfl, rfl, rfl⟩ := h
    subst hc
    exact frame_get_ok A0 c0 l0 p w hr0 hc0 hG h1
  · rw [if_neg hc] at h
    by_cases hd : c = 12 ∨ c = 2 ∨ c = 6
    · rw [if_pos hd] at h
      have h := Option.some.inj h
      simp only [Prod.mk.injEq] at h
      obtain ⟨rfl, rfl, rfl⟩ := h
      rcases hd with rfl | rfl | rfl
      · refine (frame_get_a A0 c0 l0 p w hr0 hc0 hG h1).mono ?_
        rintro e w' ⟨rfl, hb⟩
        exact ⟨_, rfl, Kd.R_nil _ _ _ _ _, hb⟩
      · refine (frame_get_b A0 c0 l0 p w hr0 hc0 hG h1).mono ?_
        rintro e w' ⟨rfl, hb⟩
        exact ⟨_, rfl, Kd.R_nil _ _ _ _ _, hb⟩
      · refine (frame_get_c A0 c0 l0 p w hr0 hc0 hG h1).mono ?_
        rintro e w' ⟨rfl, hb⟩
        exact ⟨_, rfl, Kd.R_nil _ _ _ _ _, hb⟩
    · rw [if_neg hd] at h
      cases h

end Go.Proofs.YtibdikihgdkfnaaGreatDoor.PSto

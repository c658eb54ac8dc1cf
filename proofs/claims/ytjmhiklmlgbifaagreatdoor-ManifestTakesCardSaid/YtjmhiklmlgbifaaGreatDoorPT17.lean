/- Texts, put into one. -/
import Derived.Test.YtjmhiklmlgbifaaGreatDoorPT16
import Derived.Test.YtjmhiklmlgbifaaGreatDoorPTW
set_option linter.unusedVariables false
set_option linter.unusedSimpArgs false
open Go Go.RowKit Go.Proofs.YtjmhiklmlgbifaaGreatDoorW.PrintWords Go.Proofs.YtjmhiklmlgbifaaGreatDoorW.PrintLast Go.Proofs.YtjmhiklmlgbifaaGreatDoorW.PrintMore
namespace Go.Proofs.YtjmhiklmlgbifaaGreatDoor.PMan
section
attribute [local go_sem] max2_int min2_int max_two min_two max_three min_three max_four min_four
def frame_read.f (l : List Int) : Option (List Int × Int) :=
 (num_Reader_Fix.f (l.take 8) 0 0 0 4).bind fun a =>
 (num_Reader_Fix.f (l.take 8) a.2.1 a.2.2.1 a.2.2.2 4).bind fun b =>
 if 4 ≤ l.length ∧ a.1 > 16777216 then some ([], 12)
 else if b.2.2.1 = 0 then
  if 8 ≤ l.length ∧ 0 ≤ a.1 ∧ a.1 ≤ 16777216 then
   if (l.length : Int) - 8 < a.1 then some ([], 2)
   else (crc_Sum.f (l.take 4)).bind fun s1 => (crc_More.f s1 ((l.take (8 + a.1).toNat).drop 8)).bind fun s2 =>
    if b.1 % 4294967296 = s2 then some ((l.take (8 + a.1).toNat).drop 8, 0) else some ([], 6)
  else none
 else some ([], b.2.2.1)
def brokenW (c : Int) : Value := if c = 0 then .nilIface else .iface 176 (.agg #[.iface 31 (.int .i64 c)])
set_option maxHeartbeats 4000000 in
set_option maxRecDepth 100000 in
theorem frame_read_calls (A0 : Option Addr) (c0 : Nat) (l : List Int) (p : List Int) (c : Int) (w : World) (hr0 : Kd.C (Kd.int .u8) w A0 l.length l) (hc0 : l.length ≤ c0) (hG : ErrT w) (h : frame_read.f l = some (p, c)) :
  Calls Tryz.prog 86 #[.slice A0 l.length c0] w fun e w' => ∃ v, e = .returned (.tuple #[v, brokenW c]) ∧ Kd.R (Kd.int .u8) 5 w' w.heap.size (fun _ => True) v p ∧ Below w.heap.size w w' := by
 have hm := Kd.C_max hr0
 obtain ⟨i0, hi0, hz0⟩ := Option.map_eq_some_iff.1 clone_info
 simp only [Prod.mk.injEq] at hz0
 obtain ⟨⟨n, a1, a2, a3⟩, ha, h⟩ := Option.bind_eq_some_iff.mp h
 obtain ⟨⟨sm, b1, b2, b3⟩, hb, h⟩ := Option.bind_eq_some_iff.mp h
 simp only at hb h
 -- the first eight bytes
 have ht8 : l.take 8 = l.take (((min l.length 8 : Nat) : Int)).toNat := by
  rw [Int.toNat_natCast]
  rcases Nat.le_total l.length 8 with h8 | h8
  ·rw [Nat.min_eq_left h8, List.take_of_length_le h8, List.take_length]
  ·rw [Nat.min_eq_right h8]
 obtain ⟨hc8, hr8, hl8⟩ := print_take_int (P := Tryz.prog) (k := .u8) 30 5 Tryz.underlying30 hi0 hz0.2.1 A0 c0 l ((min l.length 8 : Nat) : Int) (by omega) (by omega) hc0
 rw [← ht8] at hc8 hr8 hl8
 have K8 := am (Kd.C_of_reads (d := (0 : Int)) (h1 := fun _ => rfl) (hr8 w (Kd.reads_of_C hr0)))
 have L8 := am hl8
 have S8 : Aside0 ((l.take 8).length < 140737488355328) := ⟨by rw [List.length_take]; omega⟩
 have HR := am hr0
 have HC := am hc0
 have HGL := am hG
 have HA := am ha
 have HB := am hb
 have H := am h
 have HI0 := am hi0
 have HZ0 := am hz0
 have HM := am hm
 clear hr0 hc0 hG ha hb h hr8 hl8 ht8 hi0 hz0
 have hcase : (4 ≤ l.length ∧ 16777216 < n ∧ p = [] ∧ c = 12) ∨ (¬ (4 ≤ l.length ∧ 16777216 < n) ∧ b2 ≠ 0 ∧ p = [] ∧ c = b2) ∨
   (b2 = 0 ∧ 8 ≤ l.length ∧ 0 ≤ n ∧ n ≤ 16777216 ∧ (l.length : Int) - 8 < n ∧ p = [] ∧ c = 2) ∨
   (b2 = 0 ∧ 8 ≤ l.length ∧ 0 ≤ n ∧ n ≤ 16777216 ∧ ¬ ((l.length : Int) - 8 < n) ∧ ∃ s1 s2, crc_Sum.f (l.take 4) = some s1 ∧ crc_More.f s1 ((l.take (8 + n).toNat).drop 8) = some s2 ∧
    ((sm % 4294967296 = s2 ∧ p = (l.take (8 + n).toNat).drop 8 ∧ c = 0) ∨ (¬ (sm % 4294967296 = s2) ∧ p = [] ∧ c = 6))) := by
  have h := H.out
  by_cases q1 : 4 ≤ l.length ∧ n > 16777216
  ·rw [if_pos q1] at h
   have h := Option.some.inj h
   simp only [Prod.mk.injEq] at h
   exact .inl ⟨q1.1, q1.2, h.1.symm, h.2.symm⟩
  ·rw [if_neg q1] at h
   by_cases q2 : b2 = 0
   ·rw [if_pos q2] at h
    by_cases q3 : 8 ≤ l.length ∧ 0 ≤ n ∧ n ≤ 16777216
    ·rw [if_pos q3] at h
     by_cases q4 : (l.length : Int) - 8 < n
     ·rw [if_pos q4] at h
      have h := Option.some.inj h
      simp only [Prod.mk.injEq] at h
      exact .inr (.inr (.inl ⟨q2, q3.1, q3.2.1, q3.2.2, q4, h.1.symm, h.2.symm⟩))
     ·rw [if_neg q4] at h
      obtain ⟨s1, e1, h⟩ := Option.bind_eq_some_iff.mp h
      obtain ⟨s2, e2, h⟩ := Option.bind_eq_some_iff.mp h
      refine .inr (.inr (.inr ⟨q2, q3.1, q3.2.1, q3.2.2, q4, s1, s2, e1, e2, ?_⟩))
      by_cases q5 : sm % 4294967296 = s2
      ·rw [if_pos q5] at h
       have h := Option.some.inj h
       simp only [Prod.mk.injEq] at h
       exact .inl ⟨q5, h.1.symm, h.2.symm⟩
      ·rw [if_neg q5] at h
       have h := Option.some.inj h
       simp only [Prod.mk.injEq] at h
       exact .inr ⟨q5, h.1.symm, h.2.symm⟩
    ·rw [if_neg q3] at h
     cases h
   ·rw [if_neg q2] at h
    have h := Option.some.inj h
    simp only [Prod.mk.injEq] at h
    exact .inr (.inl ⟨q1, q2, h.1.symm, h.2.symm⟩)
 have HCASE := am hcase
 clear hcase H h
 have e8 : (l.take 8).length = min 8 l.length := List.length_take
 generalize l.take 8 = l8 at *
 have hnew := fun (W : World) (hk : Kd.C (Kd.int .u8) W A0 l8.length l8) => rd_new A0 c0 l8 W hk L8.out S8.out
 have HNEW : Aside0 (∀ k : Nat, k = l8.length → ∀ W : World, Kd.C (Kd.int .u8) W A0 l8.length l8 → Calls Tryz.prog 87 #[.slice A0 k c0] W fun e w' => ∃ g w1, e = .returned (.pointer (some ⟨g, 0, none⟩)) ∧ RD w1 w' g l8 0 0 0 ∧ Below W.heap.size W w1 ∧ Below w1.heap.size w1 w') := ⟨fun k hk => by subst hk; exact hnew⟩
 have HE8 := am e8
 clear hnew e8 hc8
 have hc1 := HC.out
 by_cases h8 : (8 : Int) < (l.length : Int)
 all_goals
  go_enter Tryz.func86, Tryz.ntmps86
  go_wp2_with fail
  refine (HNEW.out _ (by have := HE8.out; omega) _ K8.out).mono ?_
  rintro e w1 ⟨g, wr, rfl, hrd, hb1, hb2⟩
  have RDH := am hrd
  have HB1 := am hb1
  have HB2 := am hb2
  clear hrd hb1 hb2 hc1 h8
  go_wp2_with fail
  refine (num_Reader_Fix.calls g l8 0 0 0 4 n a1 a2 a3 wr _ RDH.out HB2.out HA.out).mono ?_
  rintro e w2 ⟨rfl, hrd, hb, _⟩
  have RD2 := am hrd
  have HB3 := am hb
  clear hrd hb
  go_wp2_with fail
  refine (num_Reader_Fix.calls g l8 a1 a2 a3 4 sm b1 b2 b3 wr _ RD2.out HB3.out HB.out).mono ?_
  rintro e w3 ⟨rfl, hrd, hb, _⟩
  have RD3 := am hrd
  have HB4 := am hb
  clear hrd hb
  go_wp2_with fail
  refine (rd_err g l8 b1 b2 b3 wr _ (HGL.out.below (HB1.out.trans (HB4.out.mono HB1.out.size))) RD3.out).mono ?_
  rintro e w4 ⟨rfl, hb⟩
  have HW := am (below_then (HB1.out.trans (HB4.out.mono HB1.out.size)) (Nat.le_trans HB1.out.size HB4.out.size) hb)
  clear hb RD3 RD2 RDH HB1 HB2 HB3 HB4 HA HB K8 L8 S8
  rcases HCASE.out with ⟨q1, q2, rfl, rfl⟩ | ⟨q1, q2, rfl, rfl⟩ | ⟨rfl, q1, q2, q3, q4, rfl, rfl⟩ | ⟨rfl, q1, q2, q3, q4, s1, s2, e1, e2, hq⟩
  ·have d1 : decide ((4 : Int) ≤ (l.length : Int)) = true := by simp <;> omega
   have d2 : decide ((16777216 : Int) < n) = true := by simpa using q2
   clear q1 q2
   go_wp2
   go_ret2
   exact ⟨_, rfl, Kd.R_nil _ _ _ _ _, HW.out⟩
  ·have d3 : (c != 0) = true := by simpa using q2
   have Q2 := am q2
   by_cases q4 : 4 ≤ l.length
   ·have d1 : decide ((4 : Int) ≤ (l.length : Int)) = true := by simp <;> omega
    have d2 : decide ((16777216 : Int) < n) = false := by simp only [decide_eq_false_iff_not]; omega
    clear q1 q2 q4
    go_wp2
    go_ret2
    exact ⟨_, by unfold brokenW; rw [if_neg Q2.out]; rfl, Kd.R_nil _ _ _ _ _, HW.out⟩
   ·have d1 : decide ((4 : Int) ≤ (l.length : Int)) = false := by simp <;> omega
    clear q1 q2 q4
    go_wp2
    go_ret2
    exact ⟨_, by unfold brokenW; rw [if_neg Q2.out]; rfl, Kd.R_nil _ _ _ _ _, HW.out⟩
  ·have d1 : decide ((4 : Int) ≤ (l.length : Int)) = true := by simp <;> omega
   have d2 : decide ((16777216 : Int) < n) = false := by simp only [decide_eq_false_iff_not]; omega
   have q5 : (8 : Int) ≤ (l.length : Int) := by omega
   have q6 : (l.length : Int) ≤ 9223372036854775807 := by have := HM.out; omega
   have d4 : decide ((l.length : Int) - 8 < n) = true := by simpa using q4
   clear q1 q4
   go_wp2
   go_ret2
   exact ⟨_, rfl, Kd.R_nil _ _ _ _ _, HW.out⟩
  ·have d1 : decide ((4 : Int) ≤ (l.length : Int)) = true := by simp <;> omega
   have d2 : decide ((16777216 : Int) < n) = false := by simp only [decide_eq_false_iff_not]; omega
   have q5 : (8 : Int) ≤ (l.length : Int) := by omega
   have q6 : (l.length : Int) ≤ 9223372036854775807 := by have := HM.out; omega
   have d4 : decide ((l.length : Int) - 8 < n) = false := by simpa using q4
   obtain ⟨hc4, hr4, hl4⟩ := print_take_int (P := Tryz.prog) (k := .u8) 30 5 Tryz.underlying30 HI0.out HZ0.out.2.1 A0 c0 l 4 (by omega) (by omega) HC.out
   obtain ⟨A', hcp, hrp, hlp⟩ := print_mid_int (P := Tryz.prog) (k := .u8) 30 5 Tryz.underlying30 HI0.out HZ0.out.2.1 A0 c0 l 8 (8 + n) (by omega) (by omega) (by omega) HC.out
   have k4 : Kd.C (Kd.int .u8) w A0 (l.take 4).length (l.take 4) := Kd.C_of_reads (d := (0 : Int)) (h1 := fun _ => rfl) (hr4 w (Kd.reads_of_C HR.out))
   have kp : Kd.C (Kd.int .u8) w A' ((l.take (8 + n).toNat).drop 8).length ((l.take (8 + n).toNat).drop 8) := Kd.C_of_reads (d := (0 : Int)) (h1 := fun _ => rfl) (hrp w (Kd.reads_of_C HR.out))
   replace hlp : ((l.take (8 + n).toNat).drop 8).length ≤ c0 - 8 := hlp
   replace hl4 : (l.take 4).length ≤ c0 := hl4
   replace hc4 : ∀ W : World, (Instr.slice 30 (.slice A0 l.length c0) none (some (.int .i64 4)) none).run Tryz.prog W = .ok (.slice A0 (l.take 4).length c0) W := hc4
   replace hcp : ∀ W : World, (Instr.slice 30 (.slice A0 l.length c0) (some (.int .i64 8)) (some (.int .i64 (8 + n))) none).run Tryz.prog W = .ok (.slice A' ((l.take (8 + n).toNat).drop 8).length (c0 - 8)) W := hcp
   have sp : ((l.take (8 + n).toNat).drop 8).length < 140737488355328 := by rw [List.length_drop, List.length_take]; omega
   have z4 : 4 = (l.take 4).length := by rw [List.length_take]; omega
   have zp : (l.take (8 + n).toNat).drop 8 = (l.take (8 + n).toNat).drop 8 := rfl
   generalize (l.take (8 + n).toNat).drop 8 = pl at *
   generalize l.take 4 = l4 at *
   have K4 := am k4
   have KP := am kp
   have LP := am hlp
   have L4 := am hl4
   have SP := am sp
   have Z4 := am z4
   have E1 := am e1
   have E2 := am e2
   have HQ := am hq
   have hc1 := HC.out
   clear hr4 hrp hlp hl4 e1 e2 hq q4 k4 kp sp z4 zp
   go_wp2_with fail
   refine (crc_Sum.calls A0 c0 l4 s1 _ (Kd.C_below K4.out HW.out) L4.out E1.out).mono ?_
   rintro e w5 ⟨rfl, hb⟩
   have HW5 := am (below_step HW.out hb)
   clear hb
   go_wp2_with fail
   refine (crc_More.calls s1 A' (c0 - 8) pl s2 _ (Kd.C_below KP.out HW5.out) LP.out E2.out).mono ?_
   rintro e w6 ⟨rfl, hb⟩
   have HW6 := am (below_step HW5.out hb)
   clear hb
   rcases HQ.out with ⟨q7, rfl, rfl⟩ | ⟨q7, rfl, rfl⟩
   ·have d7 : (sm % 4294967296 != s2) = false := by simpa using q7
    clear q7
    go_wp2_with fail
    refine (bytes_Clone.calls A' (c0 - 8) p p _ (Kd.C_below KP.out HW6.out) LP.out (by unfold bytes_Clone.f; rw [if_pos SP.out])).mono ?_
    rintro e w7 ⟨v, rfl, hr, hb⟩
    have HRV := am (Kd.R_lower hr HW6.out.size)
    have HW7 := am (below_step HW6.out hb)
    clear hr hb
    go_wp2
    go_ret2
    exact ⟨_, rfl, HRV.out, HW7.out⟩
   ·have d7 : (sm % 4294967296 != s2) = true := by simpa using q7
    clear q7
    go_wp2
    go_ret2
    exact ⟨_, rfl, Kd.R_nil _ _ _ _ _, HW6.out⟩
end
section
attribute [local go_sem] max2_int min2_int max_two min_two max_three min_three max_four min_four
def frame_Get.f (l : List Int) : Option (List Int × Int × Int) :=
 (frame_read.f l).bind fun r => if r.2 = 0 then some (r.1, wrap64 (8 + (r.1.length : Int)), 0) else if r.2 = 12 ∨ r.2 = 2 ∨ r.2 = 6 then some ([], 0, r.2) else none
set_option maxHeartbeats 4000000 in
set_option maxRecDepth 100000 in
theorem frame_get_a (A0 : Option Addr) (c0 : Nat) (l : List Int) (p : List Int) (w : World) (hr0 : Kd.C (Kd.int .u8) w A0 l.length l) (hc0 : l.length ≤ c0) (hG : ErrT w) (h : frame_read.f l = some (p, 12)) :
  Calls Tryz.prog 53 #[.slice A0 l.length c0] w fun e w' => e = .returned (.tuple #[.slice none 0 0, .int .i64 0, .int .i64 12]) ∧ Below w.heap.size w w' := by
 have HR := am hr0
 have HC := am hc0
 have HGL := am hG
 have H := am h
 clear hr0 hc0 hG h
 go_enter Tryz.func53, Tryz.ntmps53
 go_wp2_with fail
 refine (frame_read_calls A0 c0 l p 12 _ HR.out HC.out HGL.out H.out).mono ?_
 rintro e w1 ⟨v, rfl, hr, hb⟩
 rw [show brokenW 12 = .iface 176 (.agg #[.iface 31 (.int .i64 12)]) from rfl]
 obtain ⟨Av, cv, rfl⟩ := Kd.R_slice hr
 have HRV := am hr
 have HW := am hb
 clear hr hb
 go_wp2_with fail
 refine wp_loop_rounds 4 ?_
 rw [rounds_succ]
 go_wp2_with fail
 refine (is_broken 12 12 _).mono ?_
 rintro e w2 ⟨rfl, hb⟩
 rw [show ((12 : Int) == 12) = true from by decide]
 have x0 := (hb.block w1.heap.size (by simp)).trans (heap_alloc_new w1 (.cells #[.int .i64 12, .int .i64 2, .int .i64 6] 31))
 have HW0 := am (below_step (below_alloc HW.out (.cells #[.int .i64 12, .int .i64 2, .int .i64 6] 31)) hb)
 have c00 := blk_cell x0 0
 have c10 := blk_cell x0 1
 have c20 := blk_cell x0 2
 simp only [List.getElem?_toArray] at c00 c10 c20
 have X0 := am x0
 clear hb x0
 go_wp2
 refine bodyPost_ret (v := .tuple #[.slice none 0 0, .int .i64 0, .int .i64 12]) ?_ rfl ⟨rfl, HW0.out⟩
 simp [results, Tryz.results53, go_sem]
set_option maxHeartbeats 4000000 in
set_option maxRecDepth 100000 in
theorem frame_get_b (A0 : Option Addr) (c0 : Nat) (l : List Int) (p : List Int) (w : World) (hr0 : Kd.C (Kd.int .u8) w A0 l.length l) (hc0 : l.length ≤ c0) (hG : ErrT w) (h : frame_read.f l = some (p, 2)) :
  Calls Tryz.prog 53 #[.slice A0 l.length c0] w fun e w' => e = .returned (.tuple #[.slice none 0 0, .int .i64 0, .int .i64 2]) ∧ Below w.heap.size w w' := by
 have HR := am hr0
 have HC := am hc0
 have HGL := am hG
 have H := am h
 clear hr0 hc0 hG h
 go_enter Tryz.func53, Tryz.ntmps53
 go_wp2_with fail
 refine (frame_read_calls A0 c0 l p 2 _ HR.out HC.out HGL.out H.out).mono ?_
 rintro e w1 ⟨v, rfl, hr, hb⟩
 rw [show brokenW 2 = .iface 176 (.agg #[.iface 31 (.int .i64 2)]) from rfl]
 obtain ⟨Av, cv, rfl⟩ := Kd.R_slice hr
 have HRV := am hr
 have HW := am hb
 clear hr hb
 go_wp2_with fail
 refine wp_loop_rounds 4 ?_
 rw [rounds_succ]
 go_wp2_with fail
 refine (is_broken 2 12 _).mono ?_
 rintro e w2 ⟨rfl, hb⟩
 rw [show ((2 : Int) == 12) = false from by decide]
 have x0 := (hb.block w1.heap.size (by simp)).trans (heap_alloc_new w1 (.cells #[.int .i64 12, .int .i64 2, .int .i64 6] 31))
 have HW0 := am (below_step (below_alloc HW.out (.cells #[.int .i64 12, .int .i64 2, .int .i64 6] 31)) hb)
 have c00 := blk_cell x0 0
 have c10 := blk_cell x0 1
 have c20 := blk_cell x0 2
 simp only [List.getElem?_toArray] at c00 c10 c20
 have X0 := am x0
 clear hb x0
 go_wp2_with fail
 rw [rounds_succ]
 go_wp2_with fail
 refine (is_broken 2 2 _).mono ?_
 rintro e w3 ⟨rfl, hb⟩
 rw [show ((2 : Int) == 2) = true from by decide]
 have x1 := (hb.block w1.heap.size (blk_lt X0.out)).trans X0.out
 have HW1 := am (below_step HW0.out hb)
 have c01 := blk_cell x1 0
 have c11 := blk_cell x1 1
 have c21 := blk_cell x1 2
 simp only [List.getElem?_toArray] at c01 c11 c21
 have X1 := am x1
 clear hb x1
 go_wp2
 refine bodyPost_ret (v := .tuple #[.slice none 0 0, .int .i64 0, .int .i64 2]) ?_ rfl ⟨rfl, HW1.out⟩
 simp [results, Tryz.results53, go_sem]
set_option maxHeartbeats 4000000 in
set_option maxRecDepth 100000 in
theorem frame_get_c (A0 : Option Addr) (c0 : Nat) (l : List Int) (p : List Int) (w : World) (hr0 : Kd.C (Kd.int .u8) w A0 l.length l) (hc0 : l.length ≤ c0) (hG : ErrT w) (h : frame_read.f l = some (p, 6)) :
  Calls Tryz.prog 53 #[.slice A0 l.length c0] w fun e w' => e = .returned (.tuple #[.slice none 0 0, .int .i64 0, .int .i64 6]) ∧ Below w.heap.size w w' := by
 have HR := am hr0
 have HC := am hc0
 have HGL := am hG
 have H := am h
 clear hr0 hc0 hG h
 go_enter Tryz.func53, Tryz.ntmps53
 go_wp2_with fail
 refine (frame_read_calls A0 c0 l p 6 _ HR.out HC.out HGL.out H.out).mono ?_
 rintro e w1 ⟨v, rfl, hr, hb⟩
 rw [show brokenW 6 = .iface 176 (.agg #[.iface 31 (.int .i64 6)]) from rfl]
 obtain ⟨Av, cv, rfl⟩ := Kd.R_slice hr
 have HRV := am hr
 have HW := am hb
 clear hr hb
 go_wp2_with fail
 refine wp_loop_rounds 4 ?_
 rw [rounds_succ]
 go_wp2_with fail
 refine (is_broken 6 12 _).mono ?_
 rintro e w2 ⟨rfl, hb⟩
 rw [show ((6 : Int) == 12) = false from by decide]
 have x0 := (hb.block w1.heap.size (by simp)).trans (heap_alloc_new w1 (.cells #[.int .i64 12, .int .i64 2, .int .i64 6] 31))
 have HW0 := am (below_step (below_alloc HW.out (.cells #[.int .i64 12, .int .i64 2, .int .i64 6] 31)) hb)
 have c00 := blk_cell x0 0
 have c10 := blk_cell x0 1
 have c20 := blk_cell x0 2
 simp only [List.getElem?_toArray] at c00 c10 c20
 have X0 := am x0
 clear hb x0
 go_wp2_with fail
 rw [rounds_succ]
 go_wp2_with fail
 refine (is_broken 6 2 _).mono ?_
 rintro e w3 ⟨rfl, hb⟩
 rw [show ((6 : Int) == 2) = false from by decide]
 have x1 := (hb.block w1.heap.size (blk_lt X0.out)).trans X0.out
 have HW1 := am (below_step HW0.out hb)
 have c01 := blk_cell x1 0
 have c11 := blk_cell x1 1
 have c21 := blk_cell x1 2
 simp only [List.getElem?_toArray] at c01 c11 c21
 have X1 := am x1
 clear hb x1
 go_wp2_with fail
 rw [rounds_succ]
 go_wp2_with fail
 refine (is_broken 6 6 _).mono ?_
 rintro e w4 ⟨rfl, hb⟩
 rw [show ((6 : Int) == 6) = true from by decide]
 have x2 := (hb.block w1.heap.size (blk_lt X1.out)).trans X1.out
 have HW2 := am (below_step HW1.out hb)
 have c02 := blk_cell x2 0
 have c12 := blk_cell x2 1
 have c22 := blk_cell x2 2
 simp only [List.getElem?_toArray] at c02 c12 c22
 have X2 := am x2
 clear hb x2
 go_wp2
 refine bodyPost_ret (v := .tuple #[.slice none 0 0, .int .i64 0, .int .i64 6]) ?_ rfl ⟨rfl, HW2.out⟩
 simp [results, Tryz.results53, go_sem]
set_option maxHeartbeats 4000000 in
set_option maxRecDepth 100000 in
theorem frame_get_ok (A0 : Option Addr) (c0 : Nat) (l : List Int) (p : List Int) (w : World) (hr0 : Kd.C (Kd.int .u8) w A0 l.length l) (hc0 : l.length ≤ c0) (hG : ErrT w) (h : frame_read.f l = some (p, 0)) :
  Calls Tryz.prog 53 #[.slice A0 l.length c0] w fun e w' => ∃ v, e = .returned (.tuple #[v, .int .i64 (wrap64 (8 + (p.length : Int))), .int .i64 0]) ∧ Kd.R (Kd.int .u8) 5 w' w.heap.size (fun _ => True) v p ∧ Below w.heap.size w w' := by
 have HR := am hr0
 have HC := am hc0
 have HGL := am hG
 have H := am h
 clear hr0 hc0 hG h
 go_enter Tryz.func53, Tryz.ntmps53
 go_wp2_with fail
 refine (frame_read_calls A0 c0 l p 0 _ HR.out HC.out HGL.out H.out).mono ?_
 rintro e w1 ⟨v, rfl, hr, hb⟩
 rw [show brokenW 0 = .nilIface from rfl]
 obtain ⟨Av, cv, rfl⟩ := Kd.R_slice hr
 have HRV := am hr
 have HW := am hb
 clear hr hb
 go_wp2_with fail
 refine wp_loop_rounds 4 ?_
 rw [rounds_succ]
 go_wp2_with fail
 refine (is_nil 12 _).mono ?_
 rintro e w' ⟨rfl, rfl⟩
 go_wp2_with fail
 rw [rounds_succ]
 go_wp2_with fail
 refine (is_nil 2 _).mono ?_
 rintro e w' ⟨rfl, rfl⟩
 go_wp2_with fail
 rw [rounds_succ]
 go_wp2_with fail
 refine (is_nil 6 _).mono ?_
 rintro e w' ⟨rfl, rfl⟩
 go_wp2_with fail
 rw [rounds_succ]
 go_wp2_with fail
 refine bodyPost_ret (v := .tuple #[.slice Av p.length cv, .int .i64 (wrap64 (8 + (p.length : Int))), .int .i64 0]) ?_ rfl ⟨_, rfl, Kd.R_alloc HRV.out _, below_alloc HW.out _⟩
 simp [results, Tryz.results53, go_sem]
theorem frame_Get.calls (A0 : Option Addr) (c0 : Nat) (l0 : List Int) (r1 : List Int) (r2 r3 : Int) (w : World) (hr0 : Kd.C (Kd.int .u8) w A0 l0.length l0) (hc0 : l0.length ≤ c0) (hG : ErrT w) (h : frame_Get.f l0 = some (r1, r2, r3)) :
  Calls Tryz.prog 53 #[.slice A0 l0.length c0] w fun e w' => ∃ v0_ : Value, e = .returned (.tuple #[v0_, .int .i64 r2, .int .i64 r3]) ∧ Kd.R (Kd.int .u8) 5 w' w.heap.size (fun _ => True) v0_ r1 ∧ Below w.heap.size w w' := by
 unfold frame_Get.f at h
 obtain ⟨⟨p, c⟩, h1, h⟩ := Option.bind_eq_some_iff.mp h
 simp only at h
 by_cases hc : c = 0
 ·rw [if_pos hc] at h
  have h := Option.some.inj h
  simp only [Prod.mk.injEq] at h
  obtain ⟨rfl, rfl, rfl⟩ := h
  subst hc
  exact frame_get_ok A0 c0 l0 p w hr0 hc0 hG h1
 ·rw [if_neg hc] at h
  by_cases hd : c = 12 ∨ c = 2 ∨ c = 6
  ·rw [if_pos hd] at h
   have h := Option.some.inj h
   simp only [Prod.mk.injEq] at h
   obtain ⟨rfl, rfl, rfl⟩ := h
   rcases hd with rfl | rfl | rfl
   ·refine (frame_get_a A0 c0 l0 p w hr0 hc0 hG h1).mono ?_
    rintro e w' ⟨rfl, hb⟩
    exact ⟨_, rfl, Kd.R_nil _ _ _ _ _, hb⟩
   ·refine (frame_get_b A0 c0 l0 p w hr0 hc0 hG h1).mono ?_
    rintro e w' ⟨rfl, hb⟩
    exact ⟨_, rfl, Kd.R_nil _ _ _ _ _, hb⟩
   ·refine (frame_get_c A0 c0 l0 p w hr0 hc0 hG h1).mono ?_
    rintro e w' ⟨rfl, hb⟩
    exact ⟨_, rfl, Kd.R_nil _ _ _ _ _, hb⟩
  ·rw [if_neg hd] at h
   cases h
end
section
attribute [local go_sem] max2_int min2_int max_two min_two max_three min_three max_four min_four
def estreatref01_Same.l0 : Nat → List Int → List Int → Int → Option (Bool)
 | 0, _, _, _ => none
 | k + 1, x0, x1, x5 => if x5 < (x0.length : Int) then (if 0 ≤ x5 then (if x5 < (x1.length : Int) then (if (rd x0 x5) = (rd x1 x5) then (estreatref01_Same.l0 k x0 x1 (wrap64 (x5 + 1))) else (some false)) else (none)) else (none)) else (some true)
def estreatref01_Same.f (k : Nat) (l0 : List Int) (l1 : List Int) : Option (Bool) := if (l0.length : Int) = (l1.length : Int) then (estreatref01_Same.l0 k l0 l1 0) else (some false)
set_option maxHeartbeats 8000000 in
set_option maxRecDepth 100000 in
theorem estreatref01_Same.calls (k : Nat) (A0 : Option Addr) (c0 : Nat) (l0 : List Int) (A1 : Option Addr) (c1 : Nat) (l1 : List Int) (r : Bool) (w : World) (hr0 : Kd.C (Kd.int .u8) w A0 l0.length l0) (hc0 : l0.length ≤ c0) (hr1 : Kd.C (Kd.int .u8) w A1 l1.length l1) (hc1 : l1.length ≤ c1) (h : estreatref01_Same.f k l0 l1 = some r) :
  Calls Tryz.prog 12 #[.slice A0 l0.length c0, .slice A1 l1.length c1] w fun e w' => e = .returned (.bool r) ∧ Drawn0 w w' := by
 have HR0 := am hr0
 have HC0 := am hc0
 clear hr0 hc0
 have HR1 := am hr1
 have HC1 := am hc1
 clear hr1 hc1
 have H : (if (l0.length : Int) = (l1.length : Int) then (estreatref01_Same.l0 k l0 l1 0) else (some false)) = some r := h
 clear h
 by_cases c3 : (l0.length : Int) = (l1.length : Int)
 ·rw [if_pos c3] at H
  have c3b0 : ((l0.length : Int) == (l1.length : Int)) = true := beq_iff_eq.mpr c3
  have c3b1 : ((l0.length : Int) != (l1.length : Int)) = false := bne_eq_false_iff_eq.mpr c3
  have c3b2 : (l0.length == l1.length) = true := by first | simpa using c3 | (simp at c3 ⊢; omega)
  clear c3
  have H' := am H
  clear H
  go_enter Tryz.func12, Tryz.ntmps12
  go_wp2
  repeat (go_quiet (fail); try go_wp2)
  go_loopg [5] k (fun kq v5 w' => ∃ (x5_1 : Int), v5 = .int .i64 x5_1 ∧ Aside0 (estreatref01_Same.l0 kq l0 l1 x5_1 = some r) ∧ Aside0 (kq ≤ k) ∧ Drawn0 w w')
  case atStart => exact ⟨(0), (by first | rfl | (simp; done) | (simp [*]; done)), H', ⟨Nat.le_refl _⟩, by repeat (first | exact Drawn0.refl _ | apply Drawn0.step)⟩
  case round =>
   clear H'
   try clear c1
   try clear p2
   try clear c3
   try clear c3b0
   try clear c3b1
   try clear c3b2
   obtain ⟨x5_1, rfl, HA, HK1, ⟨m1, rfl⟩⟩ := hrel
   cases gk with
   | zero => exact absurd HA.out (by simp [estreatref01_Same.l0])
   | succ k1 =>
    have H := HA.out
    clear HA
    simp only [estreatref01_Same.l0] at H
    by_cases c4 : x5_1 < (l0.length : Int)
    ·rw [if_pos c4] at H
     have c4b0 : decide (x5_1 < (l0.length : Int)) = true := decide_eq_true c4
     clear c4
     by_cases c5 : 0 ≤ x5_1
     ·rw [if_pos c5] at H
      have c5b0 : decide (0 ≤ x5_1) = true := decide_eq_true c5
      clear c5
      by_cases c6 : x5_1 < (l1.length : Int)
      ·rw [if_pos c6] at H
       have c6b0 : decide (x5_1 < (l1.length : Int)) = true := decide_eq_true c6
       clear c6
       by_cases c7 : (rd l0 x5_1) = (rd l1 x5_1)
       ·rw [if_pos c7] at H
        have c7b0 : ((rd l0 x5_1) == (rd l1 x5_1)) = true := beq_iff_eq.mpr c7
        have c7b1 : ((rd l0 x5_1) != (rd l1 x5_1)) = false := bne_eq_false_iff_eq.mpr c7
        clear c7
        have H' := am H
        clear H
        have p163 : 0 ≤ (x5_1 : Int) := of_decide_eq_true (by first | (with_reducible assumption) | assumption)
        have q163 : x5_1 < (l0.length : Int) := of_decide_eq_true (by first | (with_reducible assumption) | assumption)
        obtain ⟨ad163, e163, hx163_0⟩ := Kd.at_int HR0.out x5_1 p163 q163
        cases e163
        replace p163 := eq_true p163
        replace q163 := eq_true q163
        have p164 : 0 ≤ (x5_1 : Int) := of_decide_eq_true (by first | (with_reducible assumption) | assumption)
        have q164 : x5_1 < (l1.length : Int) := of_decide_eq_true (by first | (with_reducible assumption) | assumption)
        obtain ⟨ad164, e164, hx164_0⟩ := Kd.at_int HR1.out x5_1 p164 q164
        cases e164
        replace p164 := eq_true p164
        replace q164 := eq_true q164
        go_wp2
        repeat (go_quiet (fail); try go_wp2)
        go_roundg k1
        case measure => have := HK1.out; omega
        case rel => exact ⟨(wrap64 (x5_1 + 1)), (by first | rfl | (simp; done) | (simp [*]; done)), H', ⟨by have := HK1.out; omega⟩, by repeat (first | exact Drawn0.refl _ | apply Drawn0.step)⟩
       ·rw [if_neg c7] at H
        have c7b0 : ((rd l0 x5_1) == (rd l1 x5_1)) = false := beq_eq_false_iff_ne.mpr c7
        have c7b1 : ((rd l0 x5_1) != (rd l1 x5_1)) = true := bne_iff_ne.mpr c7
        obtain rfl := Option.some.inj H
        have p163 : 0 ≤ (x5_1 : Int) := of_decide_eq_true (by first | (with_reducible assumption) | assumption)
        have q163 : x5_1 < (l0.length : Int) := of_decide_eq_true (by first | (with_reducible assumption) | assumption)
        obtain ⟨ad163, e163, hx163_0⟩ := Kd.at_int HR0.out x5_1 p163 q163
        cases e163
        replace p163 := eq_true p163
        replace q163 := eq_true q163
        have p164 : 0 ≤ (x5_1 : Int) := of_decide_eq_true (by first | (with_reducible assumption) | assumption)
        have q164 : x5_1 < (l1.length : Int) := of_decide_eq_true (by first | (with_reducible assumption) | assumption)
        obtain ⟨ad164, e164, hx164_0⟩ := Kd.at_int HR1.out x5_1 p164 q164
        cases e164
        replace p164 := eq_true p164
        replace q164 := eq_true q164
        go_wp2
        repeat (go_quiet (fail); try go_wp2)
        go_ret
        exact ⟨by first | rfl | (simp; done) | (simp [*]; done), by repeat (first | exact Drawn0.refl _ | apply Drawn0.step)⟩
      ·rw [if_neg c6] at H
       exact absurd H (by simp)
     ·rw [if_neg c5] at H
      exact absurd H (by simp)
    ·rw [if_neg c4] at H
     have c4b0 : decide (x5_1 < (l0.length : Int)) = false := decide_eq_false c4
     clear c4
     obtain rfl := Option.some.inj H
     go_wp2
     repeat (go_quiet (fail); try go_wp2)
     go_ret
     exact ⟨by first | rfl | (simp; done) | (simp [*]; done), by repeat (first | exact Drawn0.refl _ | apply Drawn0.step)⟩
 ·rw [if_neg c3] at H
  have c3b0 : ((l0.length : Int) == (l1.length : Int)) = false := beq_eq_false_iff_ne.mpr c3
  have c3b1 : ((l0.length : Int) != (l1.length : Int)) = true := bne_iff_ne.mpr c3
  have c3b2 : (l0.length == l1.length) = false := by first | simpa using c3 | (simp at c3 ⊢; omega)
  obtain rfl := Option.some.inj H
  go_enter Tryz.func12, Tryz.ntmps12
  go_wp2
  repeat (go_quiet (fail); try go_wp2)
  go_ret
  exact ⟨by first | rfl | (simp; done) | (simp [*]; done), by repeat (first | exact Drawn0.refl _ | apply Drawn0.step)⟩
end
end Go.Proofs.YtjmhiklmlgbifaaGreatDoor.PMan

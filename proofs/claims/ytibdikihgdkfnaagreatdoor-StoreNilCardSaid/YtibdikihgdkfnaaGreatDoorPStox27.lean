-- Printed for this claim by a program of this session's own (it runs the kit's print another way): Lean checks it.
import Derived.Test.YtibdikihgdkfnaaGreatDoorPStox0
import Derived.Test.YtibdikihgdkfnaaGreatDoorPStox2
import Derived.Test.YtibdikihgdkfnaaGreatDoorPStox12
import Derived.Test.YtibdikihgdkfnaaGreatDoorPStox13
import Derived.Test.YtibdikihgdkfnaaGreatDoorPStox14
import Derived.Test.YtibdikihgdkfnaaGreatDoorPStox18
import Derived.Test.YtibdikihgdkfnaaGreatDoorPStox24
namespace Go.Proofs.YtibdikihgdkfnaaGreatDoor.PSto
open Go.RowKit Go.Proofs.YtibdikihgdkfnaaGreatDoorW.PrintWords Go.Proofs.YtibdikihgdkfnaaGreatDoorW.PrintLast Go.Proofs.YtibdikihgdkfnaaGreatDoorW.PrintMore
attribute [local go_sem] max2_int min2_int max_two min_two max_three min_three max_four min_four   -- for this text's walks alone
set_option linter.unusedVariables false
set_option linter.unusedSimpArgs false

/-! ### frame_read: function 159 -/
/-- What frame.read tells of bytes: a frame's part and 0, or an error's number. -/
def frame_read.f (l : List Int) : Option (List Int × Int) :=
  (num_Reader_Fix.f (l.take 8) 0 0 0 4).bind fun a =>
  (num_Reader_Fix.f (l.take 8) a.2.1 a.2.2.1 a.2.2.2 4).bind fun b =>
  if 4 ≤ l.length ∧ a.1 > 16777216 then some ([], 12)
  else if b.2.2.1 = 0 then
    if 8 ≤ l.length ∧ 0 ≤ a.1 ∧ a.1 ≤ 16777216 then
      if (l.length : Int) - 8 < a.1 then some ([], 2)
      else (crc_Sum.f (l.take 4)).bind fun s1 => (crc_More.f s1 ((l.take (8 + a.1).toNat).drop 8)).bind fun s2 =>
        if b.1 % 4294967296 = s2 then some ((l.take (8 + a.1).toNat).drop 8, 0) else some ([], 6)
    else none
  else some ([], b.2.2.1)
def brokenW (c : Int) : Value := if c = 0 then .nilIface else .iface 306 (.agg #[.iface 31 (.int .i64 c)])
set_option maxHeartbeats 4000000 in
set_option maxRecDepth 100000 in
theorem frame_read_calls (A0 : Option Addr) (c0 : Nat) (l : List Int) (p : List Int) (c : Int) (w : World) (hr0 : Kd.C (Kd.int .u8) w A0 l.length l) (hc0 : l.length ≤ c0) (hG : ErrT w) (h : frame_read.f l = some (p, c)) :
    Calls Tryz.prog 159 #[.slice A0 l.length c0] w fun e w' => ∃ v, e = .returned (.tuple #[v, brokenW c]) ∧ Kd.R (Kd.int .u8) 5 w' w.heap.size (fun _ => True) v p ∧ Below w.heap.size w w' := by
  have hm := Kd.C_max hr0
  obtain ⟨i0, hi0, hz0⟩ := Option.map_eq_some_iff.1 clone_info
  simp only [Prod.mk.injEq] at hz0
  obtain ⟨⟨n, a1, a2, a3⟩, ha, h⟩ := Option.bind_eq_some_iff.mp h
  obtain ⟨⟨sm, b1, b2, b3⟩, hb, h⟩ := Option.bind_eq_some_iff.mp h
  simp only at hb h
  -- the first eight bytes
  have ht8 : l.take 8 = l.take (((min l.length 8 : Nat) : Int)).toNat := by
    rw [Int.toNat_natCast]
    rcases Nat.le_total l.length 8 with h8 | h8
    · rw [Nat.min_eq_left h8, List.take_of_length_le h8, List.take_length]
    · rw [Nat.min_eq_right h8]
  obtain ⟨hc8, hr8, hl8⟩ := print_take_int (P := Tryz.prog) (k := .u8) 49 5 Tryz.underlying49 hi0 hz0.2.1 A0 c0 l ((min l.length 8 : Nat) : Int) (by omega) (by omega) hc0
  rw [← ht8] at hc8 hr8 hl8
  have K8 := Aside0.mk (Kd.C_of_reads (d := (0 : Int)) (h1 := fun _ => rfl) (hr8 w (Kd.reads_of_C hr0)))
  have L8 := Aside0.mk hl8
  have S8 : Aside0 ((l.take 8).length < 140737488355328) := ⟨by rw [List.length_take]; omega⟩
  have HR := Aside0.mk hr0
  have HC := Aside0.mk hc0
  have HGL := Aside0.mk hG
  have HA := Aside0.mk ha
  have HB := Aside0.mk hb
  have H := Aside0.mk h
  have HI0 := Aside0.mk hi0
  have HZ0 := Aside0.mk hz0
  have HM := Aside0.mk hm
  clear hr0 hc0 hG ha hb h hr8 hl8 ht8 hi0 hz0
  have hcase : (4 ≤ l.length ∧ 16777216 < n ∧ p = [] ∧ c = 12) ∨ (¬ (4 ≤ l.length ∧ 16777216 < n) ∧ b2 ≠ 0 ∧ p = [] ∧ c = b2) ∨
      (b2 = 0 ∧ 8 ≤ l.length ∧ 0 ≤ n ∧ n ≤ 16777216 ∧ (l.length : Int) - 8 < n ∧ p = [] ∧ c = 2) ∨
      (b2 = 0 ∧ 8 ≤ l.length ∧ 0 ≤ n ∧ n ≤ 16777216 ∧ ¬ ((l.length : Int) - 8 < n) ∧ ∃ s1 s2, crc_Sum.f (l.take 4) = some s1 ∧ crc_More.f s1 ((l.take (8 + n).toNat).drop 8) = some s2 ∧
        ((sm % 4294967296 = s2 ∧ p = (l.take (8 + n).toNat).drop 8 ∧ c = 0) ∨ (¬ (sm % 4294967296 = s2) ∧ p = [] ∧ c = 6))) := by
    have h := H.out
    by_cases q1 : 4 ≤ l.length ∧ n > 16777216
    · rw [if_pos q1] at h
      have h := Option.some.inj h
      simp only [Prod.mk.injEq] at h
      exact .inl ⟨q1.1, q1.2, h.1.symm, h.2.symm⟩
    · rw [if_neg q1] at h
      by_cases q2 : b2 = 0
      · rw [if_pos q2] at h
        by_cases q3 : 8 ≤ l.length ∧ 0 ≤ n ∧ n ≤ 16777216
        · rw [if_pos q3] at h
          by_cases q4 : (l.length : Int) - 8 < n
          · rw [if_pos q4] at h
            have h := Option.some.inj h
            simp only [Prod.mk.injEq] at h
            exact .inr (.inr (.inl ⟨q2, q3.1, q3.2.1, q3.2.2, q4, h.1.symm, h.2.symm⟩))
          · rw [if_neg q4] at h
            obtain ⟨s1, e1, h⟩ := Option.bind_eq_some_iff.mp h
            obtain ⟨s2, e2, h⟩ := Option.bind_eq_some_iff.mp h
            refine .inr (.inr (.inr ⟨q2, q3.1, q3.2.1, q3.2.2, q4, s1, s2, e1, e2, ?_⟩))
            by_cases q5 : sm % 4294967296 = s2
            · rw [if_pos q5] at h
              have h := Option.some.inj h
              simp only [Prod.mk.injEq] at h
              exact .inl ⟨q5, h.1.symm, h.2.symm⟩
            · rw [if_neg q5] at h
              have h := Option.some.inj h
              simp only [Prod.mk.injEq] at h
              exact .inr ⟨q5, h.1.symm, h.2.symm⟩
        · rw [if_neg q3] at h
          cases h
      · rw [if_neg q2] at h
        have h := Option.some.inj h
        simp only [Prod.mk.injEq] at h
        exact .inr (.inl ⟨q1, q2, h.1.symm, h.2.symm⟩)
  have HCASE := Aside0.mk hcase
  clear hcase H h
  have e8 : (l.take 8).length = min 8 l.length := List.length_take
  generalize l.take 8 = l8 at *
  have hnew := fun (W : World) (hk : Kd.C (Kd.int .u8) W A0 l8.length l8) => rd_new A0 c0 l8 W hk L8.out S8.out
  have HNEW : Aside0 (∀ k : Nat, k = l8.length → ∀ W : World, Kd.C (Kd.int .u8) W A0 l8.length l8 → Calls Tryz.prog 160 #[.slice A0 k c0] W fun e w' => ∃ g w1, e = .returned (.pointer (some ⟨g, 0, none⟩)) ∧ RD w1 w' g l8 0 0 0 ∧ Below W.heap.size W w1 ∧ Below w1.heap.size w1 w') := ⟨fun k hk => by subst hk; exact hnew⟩
  have HE8 := Aside0.mk e8
  clear hnew e8 hc8
  have hc1 := HC.out
  by_cases h8 : (8 : Int) < (l.length : Int)
  all_goals
    go_enter Tryz.func159, Tryz.ntmps159
    go_wp2_with fail
    refine (HNEW.out _ (by have := HE8.out; omega) _ K8.out).mono ?_
    rintro e w1 ⟨g, wr, rfl, hrd, hb1, hb2⟩
    have RDH := Aside0.mk hrd
    have HB1 := Aside0.mk hb1
    have HB2 := Aside0.mk hb2
    clear hrd hb1 hb2 hc1 h8
    go_wp2_with fail
    refine (num_Reader_Fix.calls g l8 0 0 0 4 n a1 a2 a3 wr _ RDH.out HB2.out HA.out).mono ?_
    rintro e w2 ⟨rfl, hrd, hb, _⟩
    have RD2 := Aside0.mk hrd
    have HB3 := Aside0.mk hb
    clear hrd hb
    go_wp2_with fail
    refine (num_Reader_Fix.calls g l8 a1 a2 a3 4 sm b1 b2 b3 wr _ RD2.out HB3.out HB.out).mono ?_
    rintro e w3 ⟨rfl, hrd, hb, _⟩
    have RD3 := Aside0.mk hrd
    have HB4 := Aside0.mk hb
    clear hrd hb
    go_wp2_with fail
    refine (rd_err g l8 b1 b2 b3 wr _ (HGL.out.below (HB1.out.trans (HB4.out.mono HB1.out.size))) RD3.out).mono ?_
    rintro e w4 ⟨rfl, hb⟩
    have HW := Aside0.mk (below_then (HB1.out.trans (HB4.out.mono HB1.out.size)) (Nat.le_trans HB1.out.size HB4.out.size) hb)
    clear hb RD3 RD2 RDH HB1 HB2 HB3 HB4 HA HB K8 L8 S8
    rcases HCASE.out with ⟨q1, q2, rfl, rfl⟩ | ⟨q1, q2, rfl, rfl⟩ | ⟨rfl, q1, q2, q3, q4, rfl, rfl⟩ | ⟨rfl, q1, q2, q3, q4, s1, s2, e1, e2, hq⟩
    · have d1 : decide ((4 : Int) ≤ (l.length : Int)) = true := by simp <;> omega
      have d2 : decide ((16777216 : Int) < n) = true := by simpa using q2
      clear q1 q2
      go_wp2
      go_ret2
      exact ⟨_, rfl, Kd.R_nil _ _ _ _ _, HW.out⟩
    · have d3 : (c != 0) = true := by simpa using q2
      have Q2 := Aside0.mk q2
      by_cases q4 : 4 ≤ l.length
      · have d1 : decide ((4 : Int) ≤ (l.length : Int)) = true := by simp <;> omega
        have d2 : decide ((16777216 : Int) < n) = false := by simp only [decide_eq_false_iff_not]; omega
        clear q1 q2 q4
        go_wp2
        go_ret2
        exact ⟨_, by unfold brokenW; rw [if_neg Q2.out]; rfl, Kd.R_nil _ _ _ _ _, HW.out⟩
      · have d1 : decide ((4 : Int) ≤ (l.length : Int)) = false := by simp <;> omega
        clear q1 q2 q4
        go_wp2
        go_ret2
        exact ⟨_, by unfold brokenW; rw [if_neg Q2.out]; rfl, Kd.R_nil _ _ _ _ _, HW.out⟩
    · have d1 : decide ((4 : Int) ≤ (l.length : Int)) = true := by simp <;> omega
      have d2 : decide ((16777216 : Int) < n) = false := by simp only [decide_eq_false_iff_not]; omega
      have q5 : (8 : Int) ≤ (l.length : Int) := by omega
      have q6 : (l.length : Int) ≤ 9223372036854775807 := by have := HM.out; omega
      have d4 : decide ((l.length : Int) - 8 < n) = true := by simpa using q4
      clear q1 q4
      go_wp2
      go_ret2
      exact ⟨_, rfl, Kd.R_nil _ _ _ _ _, HW.out⟩
    · have d1 : decide ((4 : Int) ≤ (l.length : Int)) = true := by simp <;> omega
      have d2 : decide ((16777216 : Int) < n) = false := by simp only [decide_eq_false_iff_not]; omega
      have q5 : (8 : Int) ≤ (l.length : Int) := by omega
      have q6 : (l.length : Int) ≤ 9223372036854775807 := by have := HM.out; omega
      have d4 : decide ((l.length : Int) - 8 < n) = false := by simpa using q4
      obtain ⟨hc4, hr4, hl4⟩ := print_take_int (P := Tryz.prog) (k := .u8) 49 5 Tryz.underlying49 HI0.out HZ0.out.2.1 A0 c0 l 4 (by omega) (by omega) HC.out
      obtain ⟨A', hcp, hrp, hlp⟩ := print_mid_int (P := Tryz.prog) (k := .u8) 49 5 Tryz.underlying49 HI0.out HZ0.out.2.1 A0 c0 l 8 (8 + n) (by omega) (by omega) (by omega) HC.out
      have k4 : Kd.C (Kd.int .u8) w A0 (l.take 4).length (l.take 4) := Kd.C_of_reads (d := (0 : Int)) (h1 := fun _ => rfl) (hr4 w (Kd.reads_of_C HR.out))
      have kp : Kd.C (Kd.int .u8) w A' ((l.take (8 + n).toNat).drop 8).length ((l.take (8 + n).toNat).drop 8) := Kd.C_of_reads (d := (0 : Int)) (h1 := fun _ => rfl) (hrp w (Kd.reads_of_C HR.out))
      replace hlp : ((l.take (8 + n).toNat).drop 8).length ≤ c0 - 8 := hlp
      replace hl4 : (l.take 4).length ≤ c0 := hl4
      replace hc4 : ∀ W : World, (Instr.slice 49 (.slice A0 l.length c0) none (some (.int .i64 4)) none).run Tryz.prog W = .ok (.slice A0 (l.take 4).length c0) W := hc4
      replace hcp : ∀ W : World, (Instr.slice 49 (.slice A0 l.length c0) (some (.int .i64 8)) (some (.int .i64 (8 + n))) none).run Tryz.prog W = .ok (.slice A' ((l.take (8 + n).toNat).drop 8).length (c0 - 8)) W := hcp
      have sp : ((l.take (8 + n).toNat).drop 8).length < 140737488355328 := by rw [List.length_drop, List.length_take]; omega
      have z4 : 4 = (l.take 4).length := by rw [List.length_take]; omega
      have zp : (l.take (8 + n).toNat).drop 8 = (l.take (8 + n).toNat).drop 8 := rfl
      generalize (l.take (8 + n).toNat).drop 8 = pl at *
      generalize l.take 4 = l4 at *
      have K4 := Aside0.mk k4
      have KP := Aside0.mk kp
      have LP := Aside0.mk hlp
      have L4 := Aside0.mk hl4
      have SP := Aside0.mk sp
      have Z4 := Aside0.mk z4
      have E1 := Aside0.mk e1
      have E2 := Aside0.mk e2
      have HQ := Aside0.mk hq
      have hc1 := HC.out
      clear hr4 hrp hlp hl4 e1 e2 hq q4 k4 kp sp z4 zp
      go_wp2_with fail
      refine (crc_Sum.calls A0 c0 l4 s1 _ (Kd.C_below K4.out HW.out) L4.out E1.out).mono ?_
      rintro e w5 ⟨rfl, hb⟩
      have HW5 := Aside0.mk (below_step HW.out hb)
      clear hb
      go_wp2_with fail
      refine (crc_More.calls s1 A' (c0 - 8) pl s2 _ (Kd.C_below KP.out HW5.out) LP.out E2.out).mono ?_
      rintro e w6 ⟨rfl, hb⟩
      have HW6 := Aside0.mk (below_step HW5.out hb)
      clear hb
      rcases HQ.out with ⟨q7, rfl, rfl⟩ | ⟨q7, rfl, rfl⟩
      · have d7 : (sm % 4294967296 != s2) = false := by simpa using q7
        clear q7
        go_wp2_with fail
        refine (bytes_Clone.calls A' (c0 - 8) p p _ (Kd.C_below KP.out HW6.out) LP.out (by unfold bytes_Clone.f; rw [if_pos SP.out])).mono ?_
        rintro e w7 ⟨v, rfl, hr, hb⟩
        have HRV := Aside0.mk (Kd.R_lower hr HW6.out.size)
        have HW7 := Aside0.mk (below_step HW6.out hb)
        clear hr hb
        go_wp2
        go_ret2
        exact ⟨_, rfl, HRV.out, HW7.out⟩
      · have d7 : (sm % 4294967296 != s2) = true := by simpa using q7
        clear q7
        go_wp2
        go_ret2
        exact ⟨_, rfl, Kd.R_nil _ _ _ _ _, HW6.out⟩

end Go.Proofs.YtibdikihgdkfnaaGreatDoor.PSto

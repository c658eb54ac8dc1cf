/- Texts of this proof, put into one, without what it does not use: PManx16, ManE. -/
import Derived.Test.YtjmhiklmlgbifaaGreatDoorPB4
import Derived.Test.YtjmhiklmlgbifaaGreatDoorPB18
import Derived.Outline
import Derived.Handy
import Derived.StillTailTactics
section
namespace Go.Proofs.YtjmhiklmlgbifaaGreatDoor.PMan
open Go.RowKit Go.Proofs.YtjmhiklmlgbifaaGreatDoorW.PrintWords Go.Proofs.YtjmhiklmlgbifaaGreatDoorW.PrintLast Go.Proofs.YtjmhiklmlgbifaaGreatDoorW.PrintMore
attribute [local go_sem] max2_int min2_int max_two min_two max_three min_three max_four min_four   -- for this text's walks alone
set_option linter.unusedVariables false
set_option linter.unusedSimpArgs false
mutual
def num_short.l0 : Nat → List Int → Int → Int → Int → Option (Int × Int × Int)
  | 0, _, _, _, _ => none
  | k + 1, x0, x2, x3, x5 => if x3 = (x0.length : Int) then (some (0, 0, 2)) else (if 0 ≤ x3 then (if x3 < (x0.length : Int) then (if x5 ≥ 64 then (num_short.j1 k x0 x2 (wrap64 (x3 + 1)) x5 (rd x0 x3) (IntKind.u64.wrap (Go.bits .and .u8 (rd x0 x3) 127)) (decide (x5 ≥ 64))) else (if (wrap64 (x5 + 7)) > 64 then (if 0 ≤ (IntKind.u64.wrap (wrap64 (64 - x5))) then (num_short.j1 k x0 x2 (wrap64 (x3 + 1)) x5 (rd x0 x3) (IntKind.u64.wrap (Go.bits .and .u8 (rd x0 x3) 127)) ((shr .u64 (IntKind.u64.wrap (Go.bits .and .u8 (rd x0 x3) 127)) (IntKind.u64.wrap (wrap64 (64 - x5)))) != 0)) else (none)) else (num_short.j1 k x0 x2 (wrap64 (x3 + 1)) x5 (rd x0 x3) (IntKind.u64.wrap (Go.bits .and .u8 (rd x0 x3) 127)) false))) else (none)) else (none))
def num_short.j1 : Nat → List Int → Int → Int → Int → Int → Int → Bool → Option (Int × Int × Int)
  | 0, _, _, _, _, _, _, _ => none
  | k + 1, x0, x2, x3, x5, x6, x7, x29 => if x29 = true then (some (0, 0, 4)) else (if x6 = 0 then (num_short.j2 k x0 x2 x3 x5 x6 x7 (decide (x3 > 1))) else (num_short.j2 k x0 x2 x3 x5 x6 x7 false))
def num_short.j2 : Nat → List Int → Int → Int → Int → Int → Int → Bool → Option (Int × Int × Int)
  | 0, _, _, _, _, _, _, _ => none
  | k + 1, x0, x2, x3, x5, x6, x7, x43 => if x43 = true then (some (0, 0, 4)) else (if 0 ≤ (IntKind.u64.wrap (x5)) then (if (Go.bits .and .u8 x6 128) = 0 then (some (Go.bits .or .u64 x2 (shl .u64 x7 (IntKind.u64.wrap (x5))), x3, 0)) else (num_short.l0 k x0 (Go.bits .or .u64 x2 (shl .u64 x7 (IntKind.u64.wrap (x5)))) x3 (wrap64 (x5 + 7)))) else (none))
end
def num_short.f (k : Nat) (l0 : List Int) : Option (Int × Int × Int) := num_short.l0 k l0 0 0 0
set_option maxHeartbeats 8000000 in
set_option maxRecDepth 100000 in
theorem num_short.calls (k : Nat) (A0 : Option Addr) (c0 : Nat) (l0 : List Int) (r1 : Int) (r2 : Int) (r3 : Int) (w : World) (hr0 : Kd.C (Kd.int .u8) w A0 l0.length l0) (hc0 : l0.length ≤ c0) (h : num_short.f k l0 = some (r1, r2, r3)) :
    Calls Tryz.prog 125 #[.slice A0 l0.length c0] w fun e w' => e = .returned (.tuple #[.int .u64 r1, .int .i64 r2, .int .i64 r3]) ∧ Drawn0 w w' := by
  have HR0 := Aside0.mk hr0
  have HC0 := Aside0.mk hc0
  clear hr0 hc0
  have H : (num_short.l0 k l0 0 0 0) = some (r1, r2, r3) := h
  clear h
  have H' := Aside0.mk H
  clear H
  go_enter Tryz.func125, Tryz.ntmps125
  go_wp2
  go_loopg [2, 3, 5] k (fun kq v2 v3 v5 w' => ∃ (x2_1 : Int) (x3_1 : Int) (x5_1 : Int), v2 = .int .u64 x2_1 ∧ v3 = .int .i64 x3_1 ∧ v5 = .int .i64 x5_1 ∧ Aside0 (num_short.l0 kq l0 x2_1 x3_1 x5_1 = some (r1, r2, r3)) ∧ Aside0 (kq ≤ k) ∧ Drawn0 w w')
  case atStart => exact ⟨(0), (0), (0), (by first | rfl | (simp; done) | (simp [*]; done)), (by first | rfl | (simp; done) | (simp [*]; done)), (by first | rfl | (simp; done) | (simp [*]; done)), H', ⟨Nat.le_refl _⟩, by repeat (first | exact Drawn0.refl _ | apply Drawn0.step)⟩
  case round =>
    clear H'
    try clear c1
    obtain ⟨x2_1, x3_1, x5_1, rfl, rfl, rfl, HA, HK1, ⟨m1, rfl⟩⟩ := hrel
    cases gk with
    | zero => exact absurd HA.out (by simp [num_short.l0])
    | succ k1 =>
      have H := HA.out
      clear HA
      simp only [num_short.l0] at H
      by_cases c2 : x3_1 = (l0.length : Int)
      · rw [if_pos c2] at H
        have c2b0 : (x3_1 == (l0.length : Int)) = true := beq_iff_eq.mpr c2
        have c2b1 : (x3_1 != (l0.length : Int)) = false := bne_eq_false_iff_eq.mpr c2
        clear c2
        simp only [Option.some.injEq, Prod.mk.injEq] at H
        obtain ⟨rfl, rfl, rfl⟩ := H
        go_wp2
        go_ret3
        exact ⟨by first | rfl | (simp; done) | (simp [*]; done), by repeat (first | exact Drawn0.refl _ | apply Drawn0.step)⟩
      · rw [if_neg c2] at H
        have c2b0 : (x3_1 == (l0.length : Int)) = false := beq_eq_false_iff_ne.mpr c2
        have c2b1 : (x3_1 != (l0.length : Int)) = true := bne_iff_ne.mpr c2
        by_cases c3 : 0 ≤ x3_1
        · rw [if_pos c3] at H
          have c3b0 : decide (0 ≤ x3_1) = true := decide_eq_true c3
          clear c3
          by_cases c4 : x3_1 < (l0.length : Int)
          · rw [if_pos c4] at H
            have c4b0 : decide (x3_1 < (l0.length : Int)) = true := decide_eq_true c4
            clear c4
            have HC5 := Aside0.mk H
            clear H
            have p162 : 0 ≤ (x3_1 : Int) := of_decide_eq_true (by first | (with_reducible assumption) | assumption)
            have q162 : x3_1 < (l0.length : Int) := of_decide_eq_true (by first | (with_reducible assumption) | assumption)
            obtain ⟨ad162, e162, hx162_0⟩ := Kd.at_int HR0.out x3_1 p162 q162
            cases e162
            replace p162 := eq_true p162
            replace q162 := eq_true q162
            go_upto_if 29 with (fail)
            go_cut [29] (fun v29 wc => ∃ (kq : Nat) (x29_4 : Bool), v29 = .bool x29_4 ∧ Aside0 (num_short.j1 kq l0 x2_1 (wrap64 (x3_1 + 1)) x5_1 (rd l0 x3_1) (IntKind.u64.wrap (Go.bits .and .u8 (rd l0 x3_1) 127)) x29_4 = some (r1, r2, r3)) ∧ Aside0 (kq ≤ k1) ∧ Drawn0 w wc)
            case first =>
              have H := HC5.out
              clear HC5
              by_cases c6 : x5_1 ≥ 64
              · rw [if_pos c6] at H
                have c6b0 : decide (64 ≤ x5_1) = true := decide_eq_true c6
                clear c6
                (first | rw [c6b0] | (simp only [i64_w, i32_w]; rw [c6b0]) | skip)
                have H' := Aside0.mk H
                clear H
                go_wp2
                go_meet
                case rel => exact ⟨_, (decide (x5_1 ≥ 64)), (by first | rfl | (simp; done) | (simp [*]; done)), H', ⟨by have := HK1.out; first | omega | exact Nat.le_refl _⟩, by repeat (first | exact Drawn0.refl _ | apply Drawn0.step)⟩
              · rw [if_neg c6] at H
                have c6b0 : decide (64 ≤ x5_1) = false := decide_eq_false c6
                clear c6
                (first | rw [c6b0] | (simp only [i64_w, i32_w]; rw [c6b0]) | skip)
                by_cases c7 : (wrap64 (x5_1 + 7)) > 64
                · rw [if_pos c7] at H
                  have c7b0 : decide (64 < (wrap64 (x5_1 + 7))) = true := decide_eq_true c7
                  clear c7
                  obtain ⟨ji8, hji8⟩ : ∃ j_ : Int, (IntKind.u64.wrap (wrap64 (64 - x5_1))) = j_ := ⟨_, rfl⟩
                  replace H : (if 0 ≤ (ji8) then (num_short.j1 k1 l0 x2_1 (wrap64 (x3_1 + 1)) x5_1 (rd l0 x3_1) (IntKind.u64.wrap (Go.bits .and .u8 (rd l0 x3_1) 127)) ((shr .u64 (IntKind.u64.wrap (Go.bits .and .u8 (rd l0 x3_1) 127)) (ji8)) != 0)) else (none)) = some (r1, r2, r3) := by first | (rw [hji8] at H; exact H) | (simp only [hji8] at H ⊢; exact H)
                  by_cases c9 : 0 ≤ (ji8)
                  · rw [if_pos c9] at H
                    have c9b0 := eq_true c9
                    have c9b1 : decide (0 ≤ (ji8)) = true := decide_eq_true c9
                    clear c9
                    obtain ⟨ji10, hji10⟩ : ∃ j_ : Int, (shr .u64 (IntKind.u64.wrap (Go.bits .and .u8 (rd l0 x3_1) 127)) (ji8)) = j_ := ⟨_, rfl⟩
                    replace H : (num_short.j1 k1 l0 x2_1 (wrap64 (x3_1 + 1)) x5_1 (rd l0 x3_1) (IntKind.u64.wrap (Go.bits .and .u8 (rd l0 x3_1) 127)) ((ji10) != 0)) = some (r1, r2, r3) := by first | (rw [hji10] at H; exact H) | (simp only [hji10] at H ⊢; exact H)
                    have hji10_ : ((IntKind.u64.wrap (Go.bits .and .u8 (rd l0 x3_1) 127)) / 2 ^ min (ji8).toNat 64) = ji10 := hji10
                    have hji10z : (ji8) ≤ 64 → ((IntKind.u64.wrap (Go.bits .and .u8 (rd l0 x3_1) 127)) / 2 ^ (ji8).toNat) = ji10 := shr_small hji10
                    have H' := Aside0.mk H
                    clear H
                    go_wp2
                    go_meet
                    case rel => exact ⟨_, (((ji10) != 0)), (by first | rfl | (simp; done) | (simp only [← hji10] <;> (first | rfl | simp)) | (simp [*]; done)), H', ⟨by have := HK1.out; first | omega | exact Nat.le_refl _⟩, by repeat (first | exact Drawn0.refl _ | apply Drawn0.step)⟩
                  · rw [if_neg c9] at H
                    exact absurd H (by simp)
                · rw [if_neg c7] at H
                  have c7b0 : decide (64 < (wrap64 (x5_1 + 7))) = false := decide_eq_false c7
                  clear c7
                  have H' := Aside0.mk H
                  clear H
                  go_wp2
                  go_meet
                  case rel => exact ⟨_, (false), (by first | rfl | (simp; done) | (simp [*]; done)), H', ⟨by have := HK1.out; first | omega | exact Nat.le_refl _⟩, by repeat (first | exact Drawn0.refl _ | apply Drawn0.step)⟩
            case rest =>
              clear HC5
              try clear c1
              try clear p1
              try clear q1
              try clear hx1
              try clear c2
              try clear c2b0
              try clear c2b1
              try clear p2
              try clear c3
              try clear c3b0
              try clear c4
              try clear c4b0
              try clear c6
              try clear c6b0
              try clear p6
              try clear c7
              try clear c7b0
              try clear c9
              try clear c9b0
              try clear c9b1
              try clear hx162_0
              try clear p162
              try clear q162
              obtain ⟨kq, x29_4, rfl, HA, HJ4, ⟨mc4, rfl⟩⟩ := hcut
              cases kq with
              | zero => exact absurd HA.out (by simp [num_short.j1])
              | succ kj4 =>
                have H := HA.out
                clear HA
                simp only [num_short.j1] at H
                by_cases c11 : x29_4 = true
                · subst c11
                  have H1 : (some (0, 0, 4)) = some (r1, r2, r3) := by rw [if_pos rfl] at H; exact H
                  clear H
                  have H := H1
                  clear H1
                  simp only [Option.some.injEq, Prod.mk.injEq] at H
                  obtain ⟨rfl, rfl, rfl⟩ := H
                  go_wp2
                  go_ret3
                  exact ⟨by first | rfl | (simp; done) | (simp [*]; done), by repeat (first | exact Drawn0.refl _ | apply Drawn0.step)⟩
                · replace c11 := Bool.eq_false_iff.mpr c11
                  subst c11
                  have H1 : (if (rd l0 x3_1) = 0 then (num_short.j2 kj4 l0 x2_1 (wrap64 (x3_1 + 1)) x5_1 (rd l0 x3_1) (IntKind.u64.wrap (Go.bits .and .u8 (rd l0 x3_1) 127)) (decide ((wrap64 (x3_1 + 1)) > 1))) else (num_short.j2 kj4 l0 x2_1 (wrap64 (x3_1 + 1)) x5_1 (rd l0 x3_1) (IntKind.u64.wrap (Go.bits .and .u8 (rd l0 x3_1) 127)) false)) = some (r1, r2, r3) := by rw [if_neg (show ¬ (false = true) by decide)] at H; exact H
                  clear H
                  have H := H1
                  clear H1
                  have HC12 := Aside0.mk H
                  clear H
                  go_upto_region 12 with (fail)
                  go_cut [43] (fun v43 wc => ∃ (kq : Nat) (x43_11 : Bool), v43 = .bool x43_11 ∧ Aside0 (num_short.j2 kq l0 x2_1 (wrap64 (x3_1 + 1)) x5_1 (rd l0 x3_1) (IntKind.u64.wrap (Go.bits .and .u8 (rd l0 x3_1) 127)) x43_11 = some (r1, r2, r3)) ∧ Aside0 (kq ≤ kj4) ∧ Drawn0 w wc)
                  case first =>
                    have H := HC12.out
                    clear HC12
                    by_cases c13 : (rd l0 x3_1) = 0
                    · rw [if_pos c13] at H
                      have c13b0 : ((rd l0 x3_1) == 0) = true := beq_iff_eq.mpr c13
                      have c13b1 : ((rd l0 x3_1) != 0) = false := bne_eq_false_iff_eq.mpr c13
                      clear c13
                      (first | rw [c13b0] | (simp only [i64_w, i32_w]; rw [c13b0]) | skip)
                      have H' := Aside0.mk H
                      clear H
                      go_wp2
                      go_meet
                      case rel => exact ⟨_, (decide ((wrap64 (x3_1 + 1)) > 1)), (by first | rfl | (simp; done) | (simp [*]; done)), H', ⟨by have := HK1.out; have := HJ4.out; first | omega | exact Nat.le_refl _⟩, by repeat (first | exact Drawn0.refl _ | apply Drawn0.step)⟩
                    · rw [if_neg c13] at H
                      have c13b0 : ((rd l0 x3_1) == 0) = false := beq_eq_false_iff_ne.mpr c13
                      have c13b1 : ((rd l0 x3_1) != 0) = true := bne_iff_ne.mpr c13
                      (first | rw [c13b0] | (simp only [i64_w, i32_w]; rw [c13b0]) | skip)
                      have H' := Aside0.mk H
                      clear H
                      go_wp2
                      go_meet
                      case rel => exact ⟨_, (false), (by first | rfl | (simp; done) | (simp [*]; done)), H', ⟨by have := HK1.out; have := HJ4.out; first | omega | exact Nat.le_refl _⟩, by repeat (first | exact Drawn0.refl _ | apply Drawn0.step)⟩
                  case rest =>
                    clear HC12
                    try clear c1
                    try clear p1
                    try clear q1
                    try clear hx1
                    try clear c2
                    try clear c2b0
                    try clear c2b1
                    try clear p2
                    try clear c3
                    try clear c3b0
                    try clear c4
                    try clear c4b0
                    try clear c6
                    try clear c6b0
                    try clear p6
                    try clear c7
                    try clear c7b0
                    try clear c9
                    try clear c9b0
                    try clear c9b1
                    try clear c11
                    try clear c12
                    try clear c13
                    try clear c13b0
                    try clear c13b1
                    try clear hx162_0
                    try clear p1
                    try clear p162
                    try clear p2
                    try clear p6
                    try clear q1
                    try clear q162
                    obtain ⟨kq, x43_11, rfl, HA, HJ11, ⟨mc11, rfl⟩⟩ := hcut
                    cases kq with
                    | zero => exact absurd HA.out (by simp [num_short.j2])
                    | succ kj11 =>
                      have H := HA.out
                      clear HA
                      simp only [num_short.j2] at H
                      by_cases c14 : x43_11 = true
                      · subst c14
                        have H1 : (some (0, 0, 4)) = some (r1, r2, r3) := by rw [if_pos rfl] at H; exact H
                        clear H
                        have H := H1
                        clear H1
                        simp only [Option.some.injEq, Prod.mk.injEq] at H
                        obtain ⟨rfl, rfl, rfl⟩ := H
                        go_wp2
                        go_ret3
                        exact ⟨by first | rfl | (simp; done) | (simp [*]; done), by repeat (first | exact Drawn0.refl _ | apply Drawn0.step)⟩
                      · replace c14 := Bool.eq_false_iff.mpr c14
                        subst c14
                        have H1 : (if 0 ≤ (IntKind.u64.wrap (x5_1)) then (if (Go.bits .and .u8 (rd l0 x3_1) 128) = 0 then (some (Go.bits .or .u64 x2_1 (shl .u64 (IntKind.u64.wrap (Go.bits .and .u8 (rd l0 x3_1) 127)) (IntKind.u64.wrap (x5_1))), (wrap64 (x3_1 + 1)), 0)) else (num_short.l0 kj11 l0 (Go.bits .or .u64 x2_1 (shl .u64 (IntKind.u64.wrap (Go.bits .and .u8 (rd l0 x3_1) 127)) (IntKind.u64.wrap (x5_1)))) (wrap64 (x3_1 + 1)) (wrap64 (x5_1 + 7)))) else (none)) = some (r1, r2, r3) := by rw [if_neg (show ¬ (false = true) by decide)] at H; exact H
                        clear H
                        have H := H1
                        clear H1
                        obtain ⟨ji15, hji15⟩ : ∃ j_ : Int, (IntKind.u64.wrap (x5_1)) = j_ := ⟨_, rfl⟩
                        replace H : (if 0 ≤ (ji15) then (if (Go.bits .and .u8 (rd l0 x3_1) 128) = 0 then (some (Go.bits .or .u64 x2_1 (shl .u64 (IntKind.u64.wrap (Go.bits .and .u8 (rd l0 x3_1) 127)) (ji15)), (wrap64 (x3_1 + 1)), 0)) else (num_short.l0 kj11 l0 (Go.bits .or .u64 x2_1 (shl .u64 (IntKind.u64.wrap (Go.bits .and .u8 (rd l0 x3_1) 127)) (ji15))) (wrap64 (x3_1 + 1)) (wrap64 (x5_1 + 7)))) else (none)) = some (r1, r2, r3) := by first | (rw [hji15] at H; exact H) | (simp only [hji15] at H ⊢; exact H)
                        by_cases c16 : 0 ≤ (ji15)
                        · rw [if_pos c16] at H
                          have c16b0 := eq_true c16
                          have c16b1 : decide (0 ≤ (ji15)) = true := decide_eq_true c16
                          clear c16
                          obtain ⟨ji17, hji17⟩ : ∃ j_ : Int, (shl .u64 (IntKind.u64.wrap (Go.bits .and .u8 (rd l0 x3_1) 127)) (ji15)) = j_ := ⟨_, rfl⟩
                          replace H : (if (Go.bits .and .u8 (rd l0 x3_1) 128) = 0 then (some (Go.bits .or .u64 x2_1 (ji17), (wrap64 (x3_1 + 1)), 0)) else (num_short.l0 kj11 l0 (Go.bits .or .u64 x2_1 (ji17)) (wrap64 (x3_1 + 1)) (wrap64 (x5_1 + 7)))) = some (r1, r2, r3) := by first | (rw [hji17] at H; exact H) | (simp only [hji17] at H ⊢; exact H)
                          have hji17_ : (IntKind.u64.wrap ((IntKind.u64.wrap (Go.bits .and .u8 (rd l0 x3_1) 127)) * 2 ^ min (ji15).toNat 64)) = ji17 := hji17
                          have hji17z : (ji15) ≤ 64 → (IntKind.u64.wrap ((IntKind.u64.wrap (Go.bits .and .u8 (rd l0 x3_1) 127)) * 2 ^ (ji15).toNat)) = ji17 := shl_small hji17
                          by_cases c18 : (Go.bits .and .u8 (rd l0 x3_1) 128) = 0
                          · rw [if_pos c18] at H
                            have c18b0 : ((Go.bits .and .u8 (rd l0 x3_1) 128) == 0) = true := beq_iff_eq.mpr c18
                            have c18b1 : ((Go.bits .and .u8 (rd l0 x3_1) 128) != 0) = false := bne_eq_false_iff_eq.mpr c18
                            clear c18
                            simp only [Option.some.injEq, Prod.mk.injEq] at H
                            obtain ⟨rfl, rfl, rfl⟩ := H
                            go_wp2
                            go_ret3
                            exact ⟨by first | rfl | (simp; done) | (simp only [← hji15, ← hji17] <;> (first | rfl | simp)) | (simp [*]; done), by repeat (first | exact Drawn0.refl _ | apply Drawn0.step)⟩
                          · rw [if_neg c18] at H
                            have c18b0 : ((Go.bits .and .u8 (rd l0 x3_1) 128) == 0) = false := beq_eq_false_iff_ne.mpr c18
                            have c18b1 : ((Go.bits .and .u8 (rd l0 x3_1) 128) != 0) = true := bne_iff_ne.mpr c18
                            have H' := Aside0.mk H
                            clear H
                            go_wp2
                            go_roundg kj11
                            case measure => have := HK1.out; have := HJ4.out; have := HJ11.out; omega
                            case rel => exact ⟨(Go.bits .or .u64 x2_1 (ji17)), ((wrap64 (x3_1 + 1))), (wrap64 (x5_1 + 7)), (by first | rfl | (simp; done) | (simp only [← hji17] <;> (first | rfl | simp)) | (simp [*]; done)), (by first | rfl | (simp; done) | (simp [*]; done)), (by first | rfl | (simp; done) | (simp [*]; done)), H', ⟨by have := HK1.out; have := HJ4.out; have := HJ11.out; omega⟩, by repeat (first | exact Drawn0.refl _ | apply Drawn0.step)⟩
                        · rw [if_neg c16] at H
                          exact absurd H (by simp)
          · rw [if_neg c4] at H
            exact absurd H (by simp)
        · rw [if_neg c3] at H
          exact absurd H (by simp)
end Go.Proofs.YtjmhiklmlgbifaaGreatDoor.PMan
end
section
namespace Go.Proofs.YtjmhiklmlgbifaaGreatDoor.PMan
open Go.RowKit Go.Proofs.YtjmhiklmlgbifaaGreatDoorW.PrintWords Go.Proofs.YtjmhiklmlgbifaaGreatDoorW.PrintLast Go.Proofs.YtjmhiklmlgbifaaGreatDoorW.PrintMore
attribute [local go_sem] max2_int min2_int max_two min_two max_three min_three max_four min_four   -- for this text's walks alone
set_option linter.unusedVariables false
set_option linter.unusedSimpArgs false
set_option maxHeartbeats 1600000 in
set_option maxRecDepth 100000 in
theorem rd_var (k : Nat) (g : Nat) (s0 : List Int) (s1 : Int) (v n : Int) (w0 w : World) (hI : RD w0 w g s0 s1 0 0) (hB : Below w0.heap.size w0 w) (h0 : 0 ≤ s1) (h1 : s1 ≤ s0.length) (hn : wrap64 (s1 + n) = s1 + n) (hf : num_short.f k (s0.drop s1.toNat) = some (v, n, 0)) :
    Calls Tryz.prog 118 #[.pointer (some ⟨g, 0, none⟩)] w fun e w' => e = .returned (.int .u64 v) ∧ RD w0 w' g s0 (s1 + n) 0 0 ∧ Below w0.heap.size w0 w' ∧ KeepBut w w' g none := by
  have HI := Aside0.mk hI
  have HB := Aside0.mk hB
  have HF := Aside0.mk hf
  have HN := Aside0.mk hn
  obtain ⟨A, c, ev, k1, k2, k3, k4, k5⟩ := hI
  obtain ⟨i0, hi0, hz0⟩ := Option.map_eq_some_iff.1 clone_info
  simp only [Prod.mk.injEq] at hz0
  obtain ⟨A', hcut, hcr, hcl⟩ := print_cut_int (P := Tryz.prog) (k := .u8) 30 5 Tryz.underlying30 hi0 hz0.2.1 A c s0 s1 h0 h1 k4
  have hc0 := blk_cell k1 0
  have hc1 := blk_cell k1 1
  simp only [List.getElem?_toArray] at hc0 hc1
  have K1 := Aside0.mk k1
  have K2 := Aside0.mk k2
  have KR := Aside0.mk (show Kd.C (Kd.int .u8) w0 A' (s0.drop s1.toNat).length (s0.drop s1.toNat) from Kd.C_of_reads (d := (0 : Int)) (h1 := fun _ => rfl) (hcr w0 (Kd.reads_of_C k3)))
  have KC := Aside0.mk hcl
  clear hB hf hn k1 k2 k3 k4 k5 h0 h1 hcr hcl hz0 hi0
  generalize s0.drop s1.toNat = out at *
  go_enter Tryz.func118, Tryz.ntmps118
  go_wp2_with fail
  refine (rd_ok g s0 _ _ _ w0 _ HI.out).mono ?_
  rintro e w' ⟨rfl, rfl⟩
  go_wp2_with fail
  refine start_ (n := 17) (S := fun w' => w'.cell? ⟨g, 0, none⟩ = some (.slice A s0.length c) ∧ w'.cell? ⟨g, 1, none⟩ = some (.int .i64 s1)) (ds := []) #[false, false, false, false, false, false, false, false, false, false, false, false, false, false, false, false, false] (by kernel_rfl) rfl rfl ⟨hc0, hc1⟩ (fun hHeld => ?_)
  refine pure_ (i := 0) (N := some 10) (v := ?_) (a' := ?_) #[true, false, false, false, false, false, false, false, false, false, false, false, false, false, false, false, false] rfl rfl (by kernel_rfl) (fun _ _ _ h => h) (Or.inl ⟨by rfl, ?_⟩) ?_ ?_
  rotate_left
  · intro w'
    go_simp
    with_reducible rfl
  rotate_left
  · simp only [Act.put, List.setIfInBounds_toArray, List.set_cons_zero, List.set_cons_succ, i64_w, i32_w]
    rfl
  refine pure_ (i := 1) (N := some 11) (v := ?_) (a' := ?_) #[true, true, false, false, false, false, false, false, false, false, false, false, false, false, false, false, false] rfl rfl (by kernel_rfl) (fun _ _ _ h => h) (Or.inl ⟨by rfl, ?_⟩) ?_ ?_
  rotate_left
  · intro w'
    go_simp
    with_reducible rfl
  rotate_left
  · simp only [Act.put, List.setIfInBounds_toArray, List.set_cons_zero, List.set_cons_succ, i64_w, i32_w]
    rfl
  refine pure_ (i := 2) (N := some 12) (v := ?_) (a' := ?_) #[true, true, true, false, false, false, false, false, false, false, false, false, false, false, false, false, false] rfl rfl (by kernel_rfl) (fun _ _ _ h => h) (Or.inl ⟨by rfl, ?_⟩) ?_ ?_
  rotate_left
  · intro w'
    go_simp
    with_reducible rfl
  rotate_left
  · simp only [Act.put, List.setIfInBounds_toArray, List.set_cons_zero, List.set_cons_succ, i64_w, i32_w]
    rfl
  refine pure_ (i := 4) (N := some 14) (v := ?_) (a' := ?_) #[true, true, true, false, true, false, false, false, false, false, false, false, false, false, false, false, false] rfl rfl (by kernel_rfl) (fun _ _ _ h => h) (Or.inl ⟨by rfl, ?_⟩) ?_ ?_
  rotate_left
  · intro w'
    go_simp
    with_reducible rfl
  rotate_left
  · simp only [Act.put, List.setIfInBounds_toArray, List.set_cons_zero, List.set_cons_succ, i64_w, i32_w]
    rfl
  refine pure_ (i := 5) (N := some 15) (v := ?_) (a' := ?_) #[true, true, true, false, true, true, false, false, false, false, false, false, false, false, false, false, false] rfl rfl (by kernel_rfl) (fun _ _ _ h => h) (Or.inl ⟨by rfl, ?_⟩) ?_ ?_
  rotate_left
  · intro w'
    go_simp
    with_reducible rfl
  rotate_left
  · simp only [Act.put, List.setIfInBounds_toArray, List.set_cons_zero, List.set_cons_succ, i64_w, i32_w]
    rfl
  refine pure_ (i := 6) (N := some 16) (v := ?_) (a' := ?_) #[true, true, true, false, true, true, true, false, false, false, false, false, false, false, false, false, false] rfl rfl (by kernel_rfl) (fun _ _ _ h => h) (Or.inl ⟨by rfl, ?_⟩) ?_ ?_
  rotate_left
  · intro w'
    go_simp
    with_reducible rfl
  rotate_left
  · simp only [Act.put, List.setIfInBounds_toArray, List.set_cons_zero, List.set_cons_succ, i64_w, i32_w]
    rfl
  refine take_ (i := 3) (N := some 13) (v := ?_) (a' := ?_) #[true, true, true, true, true, true, true, false, false, false, false, false, false, false, false, false, false] rfl rfl (by kernel_rfl) (fun _ _ _ h => h) (Or.inl ⟨by rfl, ?_⟩) hHeld ?_ ?_
  rotate_left
  · rintro w' ⟨s0, s1⟩
    go_simp
    with_reducible rfl
  rotate_left
  · simp only [Act.put, List.setIfInBounds_toArray, List.set_cons_zero, List.set_cons_succ, i64_w, i32_w]
    rfl
  refine take_ (i := 7) (N := some 17) (v := ?_) (a' := ?_) #[true, true, true, true, true, true, true, true, false, false, false, false, false, false, false, false, false] rfl rfl (by kernel_rfl) (fun _ _ _ h => h) (Or.inl ⟨by rfl, ?_⟩) hHeld ?_ ?_
  rotate_left
  · rintro w' ⟨s0, s1⟩
    go_simp
    with_reducible rfl
  rotate_left
  · simp only [Act.put, List.setIfInBounds_toArray, List.set_cons_zero, List.set_cons_succ, i64_w, i32_w]
    rfl
  refine pure_ (i := 8) (N := some 18) (v := ?_) (a' := ?_) #[true, true, true, true, true, true, true, true, true, false, false, false, false, false, false, false, false] rfl rfl (by kernel_rfl) (fun _ _ _ h => h) (Or.inl ⟨by rfl, ?_⟩) ?_ ?_
  rotate_left
  · intro w'
    go_simp
    with_reducible rfl
  rotate_left
  · simp only [Act.put, List.setIfInBounds_toArray, List.set_cons_zero, List.set_cons_succ, i64_w, i32_w]
    rfl
  refine one_ (i := 9) (N := some 19) #[true, true, true, true, true, true, true, true, true, true, false, false, false, false, false, false, false] rfl rfl (by kernel_rfl) (by decide) (fun K hK => ?_)
  refine goes_ Tryz.func125 (by kernel_rfl) rfl #[.slice A' out.length (c - s1.toNat)] (by rfl) rfl rfl (by simp only [List.map_toArray, List.map_cons, List.map_nil]; rfl) ?_
  with_reducible refine (num_short.calls k A' (c - s1.toNat) out v n 0 w.drew (Kd.C_drew (Kd.C_below KR.out HB.out)) KC.out HF.out).mono ?_
  rintro e w' ⟨rfl, ⟨nd, rfl⟩⟩
  refine ⟨_, rfl, ?_⟩
  have hblk := blk_drewN (show w.drew.heap[g]? = _ from K1.out) nd
  have hc0 := blk_cell hblk 0
  have hc1 := blk_cell hblk 1
  simp only [List.getElem?_toArray] at hc0 hc1
  refine hK.out _ _ ⟨hc0, hc1⟩ (fun hHeld => ?_)
  clear hK K
  refine norm_ (a' := ?_) ?_ ?_
  rotate_left
  · show Act.put _ (some 19) _ = _
    simp only [Act.put, List.setIfInBounds_toArray, List.set_cons_zero, List.set_cons_succ, i64_w, i32_w]
    rfl
  refine pure_ (i := 10) (N := some 9) (v := ?_) (a' := ?_) #[true, true, true, true, true, true, true, true, true, true, true, false, false, false, false, false, false] rfl rfl (by kernel_rfl) (fun _ _ _ h => h) (Or.inl ⟨by rfl, ?_⟩) ?_ ?_
  rotate_left
  · intro w'
    go_simp
    with_reducible rfl
  rotate_left
  · simp only [Act.put, List.setIfInBounds_toArray, List.set_cons_zero, List.set_cons_succ, i64_w, i32_w]
    rfl
  refine pure_ (i := 11) (N := some 20) (v := ?_) (a' := ?_) #[true, true, true, true, true, true, true, true, true, true, true, true, false, false, false, false, false] rfl rfl (by kernel_rfl) (fun _ _ _ h => h) (Or.inl ⟨by rfl, ?_⟩) ?_ ?_
  rotate_left
  · intro w'
    go_simp
    with_reducible rfl
  rotate_left
  · simp only [Act.put, List.setIfInBounds_toArray, List.set_cons_zero, List.set_cons_succ, i64_w, i32_w]
    rfl
  refine pure_ (i := 12) (N := some 21) (v := ?_) (a' := ?_) #[true, true, true, true, true, true, true, true, true, true, true, true, true, false, false, false, false] rfl rfl (by kernel_rfl) (fun _ _ _ h => h) (Or.inl ⟨by rfl, ?_⟩) ?_ ?_
  rotate_left
  · intro w'
    go_simp
    with_reducible rfl
  rotate_left
  · simp only [Act.put, List.setIfInBounds_toArray, List.set_cons_zero, List.set_cons_succ, i64_w, i32_w]
    rfl
  refine pure_ (i := 13) (N := some 22) (v := ?_) (a' := ?_) #[true, true, true, true, true, true, true, true, true, true, true, true, true, true, false, false, false] rfl rfl (by kernel_rfl) (fun _ _ _ h => h) (Or.inl ⟨by rfl, ?_⟩) ?_ ?_
  rotate_left
  · intro w'
    go_simp
    with_reducible rfl
  rotate_left
  · simp only [Act.put, List.setIfInBounds_toArray, List.set_cons_zero, List.set_cons_succ, i64_w, i32_w]
    rfl
  refine pure_ (i := 14) (N := some 3) (v := ?_) (a' := ?_) #[true, true, true, true, true, true, true, true, true, true, true, true, true, true, true, false, false] rfl rfl (by kernel_rfl) (fun _ _ _ h => h) (Or.inl ⟨by rfl, ?_⟩) ?_ ?_
  rotate_left
  · intro w'
    go_simp
    with_reducible rfl
  rotate_left
  · simp only [Act.put, List.setIfInBounds_toArray, List.set_cons_zero, List.set_cons_succ, i64_w, i32_w]
    rfl
  refine pure_ (i := 15) (N := some 4) (v := ?_) (a' := ?_) #[true, true, true, true, true, true, true, true, true, true, true, true, true, true, true, true, false] rfl rfl (by kernel_rfl) (fun _ _ _ h => h) (Or.inl ⟨by rfl, ?_⟩) ?_ ?_
  rotate_left
  · intro w'
    go_simp
    with_reducible rfl
  rotate_left
  · simp only [Act.put, List.setIfInBounds_toArray, List.set_cons_zero, List.set_cons_succ, i64_w, i32_w]
    rfl
  refine pure_ (i := 16) (N := some 5) (v := ?_) (a' := ?_) #[true, true, true, true, true, true, true, true, true, true, true, true, true, true, true, true, true] rfl rfl (by kernel_rfl) (fun _ _ _ h => h) (Or.inl ⟨by rfl, ?_⟩) ?_ ?_
  rotate_left
  · intro w'
    go_simp
    with_reducible rfl
  rotate_left
  · simp only [Act.put, List.setIfInBounds_toArray, List.set_cons_zero, List.set_cons_succ, i64_w, i32_w]
    rfl
  refine done_ (by kernel_rfl) ?_
  have hblk2 := blk_drewN K1.out (1 + nd)
  have hd1 : (w.drewN (1 + nd)).cell? ⟨g, 1, none⟩ = some (.int .i64 s1) := blk_cell hblk2 1
  have hf1 := blk_frozen hblk2 1
  go_wp2_with fail
  refine (rd_fail_no g s0 _ _ _ 0 w0 _ (HI.out.drewN (1 + nd)) (.inr rfl)).mono ?_
  rintro e w' ⟨rfl, rfl⟩
  go_wp2
  go_ret
  rw [HN.out]
  have hrd := (HI.out.drewN (1 + nd)).set_at (s1 + n)
  exact ⟨rfl, hrd, HB.out.trans ((pw_below_drewN (Below.refl _ w) (1 + nd)).setCell K2.out _), (KeepBut.of_below (pw_below_drewN (Below.refl _ w) (1 + nd)) g none).set_ 1 _⟩
set_option maxHeartbeats 1600000 in
set_option maxRecDepth 100000 in
theorem rd_number (k : Nat) (g : Nat) (s0 : List Int) (s1 : Int) (v n : Int) (w0 w : World) (hI : RD w0 w g s0 s1 0 0) (hB : Below w0.heap.size w0 w) (h0 : 0 ≤ s1) (h1 : s1 ≤ s0.length) (hn : wrap64 (s1 + n) = s1 + n) (hf : num_short.f k (s0.drop s1.toNat) = some (v, n, 0)) (hv : 0 ≤ v) (hv2 : v ≤ 1099511627776) :
    Calls Tryz.prog 90 #[.pointer (some ⟨g, 0, none⟩)] w fun e w' => e = .returned (.int .i64 v) ∧ RD w0 w' g s0 (s1 + n) 0 0 ∧ Below w0.heap.size w0 w' ∧ KeepBut w w' g none := by
  have HI := Aside0.mk hI
  have HB := Aside0.mk hB
  have HF := Aside0.mk hf
  have HN := Aside0.mk hn
  have H0 := Aside0.mk h0
  have H1 := Aside0.mk h1
  have hw : wrap64 v = v := by unfold wrap64; omega
  have hd : ¬ (1099511627777 < v) := by omega
  have hd2 : v < 1099511627777 := by omega
  clear hI hB hf hn h0 h1
  go_enter Tryz.func90, Tryz.ntmps90
  go_wp2_with fail
  refine (rd_var k g s0 s1 v n w0 _ HI.out HB.out H0.out H1.out HN.out HF.out).mono ?_
  rintro e w' ⟨rfl, h1, h2, h3⟩
  have H := Aside0.mk (And.intro h1 (And.intro h2 h3))
  clear h1 h2 h3
  go_wp2

  go_ret
  exact ⟨by simp [hw], H.out⟩
set_option maxHeartbeats 1600000 in
set_option maxRecDepth 100000 in
theorem rd_good (g : Nat) (s0 : List Int) (s1 : Int) (w0 w : World) (hG : ErrT w) (hI : RD w0 w g s0 s1 0 0) :
    Calls Tryz.prog 120 #[.pointer (some ⟨g, 0, none⟩)] w fun e w' => e = .returned (.bool true) ∧ Below w.heap.size w w' := by
  have HI := Aside0.mk hI
  have HG := Aside0.mk hG
  clear hI hG
  go_enter Tryz.func120, Tryz.ntmps120
  go_wp2_with fail
  refine (rd_err g s0 s1 0 0 w0 w HG.out HI.out).mono ?_
  rintro e w' ⟨rfl, hb⟩
  have HB := Aside0.mk hb
  clear hb
  go_wp2
  go_ret
  exact ⟨rfl, HB.out⟩
set_option maxHeartbeats 1600000 in
set_option maxRecDepth 100000 in
theorem rd_end (g : Nat) (s0 : List Int) (s1 : Int) (w0 w : World) (hG : ErrT w) (hI : RD w0 w g s0 s1 0 0) (he : wrap64 ((s0.length : Int) - s1) = 0) :
    Calls Tryz.prog 96 #[.pointer (some ⟨g, 0, none⟩)] w fun e w' => e = .returned (.tuple #[.int .i64 0, .int .i64 0]) ∧ Below w.heap.size w w' := by
  have HI := Aside0.mk hI
  have HG := Aside0.mk hG
  have HE := Aside0.mk he
  clear hI hG he
  go_enter Tryz.func96, Tryz.ntmps96
  go_wp2_with fail
  refine (rd_err g s0 s1 0 0 w0 w HG.out HI.out).mono ?_
  rintro e w1 ⟨rfl, hb⟩
  have HB := Aside0.mk hb
  have HI1 := Aside0.mk (HI.out.below hb)
  clear hb
  go_wp2_with fail
  refine (rd_left g s0 s1 0 0 w0 w1 HI1.out).mono ?_
  rintro e w2 ⟨rfl, ⟨nd, rfl⟩⟩
  rw [HE.out]
  go_wp2
  go_ret2
  exact ⟨rfl, HB.out.trans ((pw_below_drewN (Below.refl _ w1) nd).mono HB.out.size)⟩
end Go.Proofs.YtjmhiklmlgbifaaGreatDoor.PMan
end

/- Texts of this proof, put into one, without what it does not use: RfD, MrA, MrB. -/
import Derived.Test.YtjmhiklmlgbifaaGreatDoorPU7
section
namespace Go.Proofs.YtjmhiklmlgbifaaGreatDoor.PMan
open Go.RowKit Go.Proofs.YtjmhiklmlgbifaaGreatDoorW.PrintWords Go.Proofs.YtjmhiklmlgbifaaGreatDoorW.PrintLast Go.Proofs.YtjmhiklmlgbifaaGreatDoorW.PrintMore
attribute [local go_sem] max2_int min2_int max_two min_two max_three min_three max_four min_four   -- for this text's walks alone
set_option linter.unusedVariables false
set_option linter.unusedSimpArgs false
mutual
def estreatref14_Great.l0 : Nat → List (S68) → Int → Int → Int → Option (Bool)
  | 0, _, _, _, _ => none
  | k + 1, x0, x1, x2, x7 => if x7 < (x0.length : Int) then (estreatref14_Great.j1 k x0 x1 x2 x7 (decide (x7 < x1))) else (estreatref14_Great.j1 k x0 x1 x2 x7 false)
def estreatref14_Great.j1 : Nat → List (S68) → Int → Int → Int → Bool → Option (Bool)
  | 0, _, _, _, _, _ => none
  | k + 1, x0, x1, x2, x7, x16 => if x16 = true then (if 0 ≤ x7 then (if x7 < (x0.length : Int) then (if (((rd_T68 x0 x7).f2).size : Int) > x2 then (some true) else (estreatref14_Great.l0 k x0 x1 x2 (wrap64 (x7 + 1)))) else (none)) else (none)) else (some (decide ((x0.length : Int) > x1)))
end
def estreatref14_Great.f (k : Nat) (l0 : List (S68)) (a1 : Int) (a2 : Int) : Option (Bool) := estreatref14_Great.l0 k l0 a1 a2 0
theorem estreatref14_Great.mono_l : ∀ k, (∀ y0 y1 y2 y3, LeO (estreatref14_Great.l0 k y0 y1 y2 y3) (estreatref14_Great.l0 (k + 1) y0 y1 y2 y3)) ∧ (∀ y0 y1 y2 y3 y4, LeO (estreatref14_Great.j1 k y0 y1 y2 y3 y4) (estreatref14_Great.j1 (k + 1) y0 y1 y2 y3 y4))
  | 0 => ⟨fun _ _ _ _ r h => by simp [estreatref14_Great.l0] at h, fun _ _ _ _ _ r h => by simp [estreatref14_Great.j1] at h⟩
  | k + 1 => by
    obtain ⟨ih0, ih1⟩ := estreatref14_Great.mono_l k
    refine ⟨?_, ?_⟩
    · intro y0 y1 y2 y3
      unfold estreatref14_Great.l0
      repeat' first
      | (with_reducible exact ih0 _ _ _ _)
      | (with_reducible exact ih1 _ _ _ _ _)
      | (with_reducible exact LeO.refl _)
      | (with_reducible exact LeO.none _)
      | (with_reducible refine LeO.ite ?_ ?_)
      | (with_reducible refine LeO.bind ?_ (fun _ => ?_))
      | exact ih0 _ _ _ _
      | exact ih1 _ _ _ _ _
      | exact LeO.none _
      | refine LeO.ite ?_ ?_
      | refine LeO.bind ?_ (fun _ => ?_)
    · intro y0 y1 y2 y3 y4
      unfold estreatref14_Great.j1
      repeat' first
      | (with_reducible exact ih0 _ _ _ _)
      | (with_reducible exact ih1 _ _ _ _ _)
      | (with_reducible exact LeO.refl _)
      | (with_reducible exact LeO.none _)
      | (with_reducible refine LeO.ite ?_ ?_)
      | (with_reducible refine LeO.bind ?_ (fun _ => ?_))
      | exact ih0 _ _ _ _
      | exact ih1 _ _ _ _ _
      | exact LeO.none _
      | refine LeO.ite ?_ ?_
      | refine LeO.bind ?_ (fun _ => ?_)
theorem estreatref14_Great.mono : ∀ a0 a1 a2 k, LeO (estreatref14_Great.f k a0 a1 a2) (estreatref14_Great.f (k + 1) a0 a1 a2) := by
  intro a0 a1 a2 k
  obtain ⟨ih0, ih1⟩ := estreatref14_Great.mono_l k
  unfold estreatref14_Great.f
  repeat' first
      | (with_reducible exact ih0 _ _ _ _)
      | (with_reducible exact ih1 _ _ _ _ _)
      | (with_reducible exact LeO.refl _)
      | (with_reducible exact LeO.none _)
      | (with_reducible refine LeO.ite ?_ ?_)
      | (with_reducible refine LeO.bind ?_ (fun _ => ?_))
      | exact ih0 _ _ _ _
      | exact ih1 _ _ _ _ _
      | exact LeO.none _
      | refine LeO.ite ?_ ?_
      | refine LeO.bind ?_ (fun _ => ?_)
set_option maxHeartbeats 8000000 in
set_option maxRecDepth 100000 in
theorem estreatref14_Great.calls (k : Nat) (A0 : Option Addr) (c0 : Nat) (l0 : List (S68)) (a1 : Int) (a2 : Int) (r : Bool) (w : World) (hr0 : Kd.C k68 w A0 l0.length l0) (hc0 : l0.length ≤ c0) (h : estreatref14_Great.f k l0 a1 a2 = some r) :
    Calls Tryz.prog 68 #[.slice A0 l0.length c0, .int .i64 a1, .int .i64 a2] w fun e w' => e = .returned (.bool r) ∧ Drawn0 w w' := by
  have HR0 := Aside0.mk hr0
  have HC0 := Aside0.mk hc0
  clear hr0 hc0
  have H : (estreatref14_Great.l0 k l0 a1 a2 0) = some r := h
  clear h
  have H' := Aside0.mk H
  clear H
  go_enter Tryz.func68, Tryz.ntmps68
  go_wp2
  go_loopg [7] k (fun kq v7 w' => ∃ (x7_1 : Int), v7 = .int .i64 x7_1 ∧ Aside0 (estreatref14_Great.l0 kq l0 a1 a2 x7_1 = some r) ∧ Aside0 (kq ≤ k) ∧ Drawn0 w w')
  case atStart => exact ⟨(0), (by first | rfl | (simp; done) | (simp [*]; done)), H', ⟨Nat.le_refl _⟩, by repeat (first | exact Drawn0.refl _ | apply Drawn0.step)⟩
  case round =>
    clear H'
    try clear p2
    obtain ⟨x7_1, rfl, HA, HK1, ⟨m1, rfl⟩⟩ := hrel
    cases gk with
    | zero => exact absurd HA.out (by simp [estreatref14_Great.l0])
    | succ k1 =>
      have H := HA.out
      clear HA
      simp only [estreatref14_Great.l0] at H
      have HC4 := Aside0.mk H
      clear H
      go_upto_region 2 with (fail)
      go_cut [16] (fun v16 wc => ∃ (kq : Nat) (x16_3 : Bool), v16 = .bool x16_3 ∧ Aside0 (estreatref14_Great.j1 kq l0 a1 a2 x7_1 x16_3 = some r) ∧ Aside0 (kq ≤ k1) ∧ Drawn0 w wc)
      case first =>
        have H := HC4.out
        clear HC4
        by_cases c5 : x7_1 < (l0.length : Int)
        · rw [if_pos c5] at H
          have c5b0 : decide (x7_1 < (l0.length : Int)) = true := decide_eq_true c5
          clear c5
          (first | rw [c5b0] | (simp only [i64_w, i32_w]; rw [c5b0]) | skip)
          have H' := Aside0.mk H
          clear H
          go_wp2
          go_meet
          case rel => exact ⟨_, (decide (x7_1 < a1)), (by first | rfl | (simp; done) | (simp [*]; done)), H', ⟨by have := HK1.out; first | omega | exact Nat.le_refl _⟩, by repeat (first | exact Drawn0.refl _ | apply Drawn0.step)⟩
        · rw [if_neg c5] at H
          have c5b0 : decide (x7_1 < (l0.length : Int)) = false := decide_eq_false c5
          clear c5
          (first | rw [c5b0] | (simp only [i64_w, i32_w]; rw [c5b0]) | skip)
          have H' := Aside0.mk H
          clear H
          go_wp2
          go_meet
          case rel => exact ⟨_, (false), (by first | rfl | (simp; done) | (simp [*]; done)), H', ⟨by have := HK1.out; first | omega | exact Nat.le_refl _⟩, by repeat (first | exact Drawn0.refl _ | apply Drawn0.step)⟩
      case rest =>
        clear HC4
        try clear p2
        try clear c5
        try clear c5b0
        try clear p2
        obtain ⟨kq, x16_3, rfl, HA, HJ3, ⟨mc3, rfl⟩⟩ := hcut
        cases kq with
        | zero => exact absurd HA.out (by simp [estreatref14_Great.j1])
        | succ kj3 =>
          have H := HA.out
          clear HA
          simp only [estreatref14_Great.j1] at H
          by_cases c6 : x16_3 = true
          · subst c6
            have H1 : (if 0 ≤ x7_1 then (if x7_1 < (l0.length : Int) then (if (((rd_T68 l0 x7_1).f2).size : Int) > a2 then (some true) else (estreatref14_Great.l0 kj3 l0 a1 a2 (wrap64 (x7_1 + 1)))) else (none)) else (none)) = some r := by rw [if_pos rfl] at H; exact H
            clear H
            have H := H1
            clear H1
            by_cases c7 : 0 ≤ x7_1
            · rw [if_pos c7] at H
              have c7b0 : decide (0 ≤ x7_1) = true := decide_eq_true c7
              clear c7
              by_cases c8 : x7_1 < (l0.length : Int)
              · rw [if_pos c8] at H
                have c8b0 : decide (x7_1 < (l0.length : Int)) = true := decide_eq_true c8
                clear c8
                by_cases c9 : (((rd_T68 l0 x7_1).f2).size : Int) > a2
                · rw [if_pos c9] at H
                  have c9b0 : decide (a2 < (((rd_T68 l0 x7_1).f2).size : Int)) = true := decide_eq_true c9
                  clear c9
                  obtain rfl := Option.some.inj H
                  have p101 : 0 ≤ (x7_1 : Int) := of_decide_eq_true (by first | (with_reducible assumption) | assumption)
                  have q101 : x7_1 < (l0.length : Int) := of_decide_eq_true (by first | (with_reducible assumption) | assumption)
                  obtain ⟨ad101, e101, hx101_0, hx101_1, hx101_2⟩ := at_T68 HR0.out x7_1 p101 q101
                  cases e101
                  replace p101 := eq_true p101
                  replace q101 := eq_true q101
                  go_wp2
                  go_ret
                  exact ⟨by first | rfl | (simp; done) | (simp [*]; done), by repeat (first | exact Drawn0.refl _ | apply Drawn0.step)⟩
                · rw [if_neg c9] at H
                  have c9b0 : decide (a2 < (((rd_T68 l0 x7_1).f2).size : Int)) = false := decide_eq_false c9
                  clear c9
                  have H' := Aside0.mk H
                  clear H
                  have p101 : 0 ≤ (x7_1 : Int) := of_decide_eq_true (by first | (with_reducible assumption) | assumption)
                  have q101 : x7_1 < (l0.length : Int) := of_decide_eq_true (by first | (with_reducible assumption) | assumption)
                  obtain ⟨ad101, e101, hx101_0, hx101_1, hx101_2⟩ := at_T68 HR0.out x7_1 p101 q101
                  cases e101
                  replace p101 := eq_true p101
                  replace q101 := eq_true q101
                  go_wp2
                  go_roundg kj3
                  case measure => have := HK1.out; have := HJ3.out; omega
                  case rel => exact ⟨(wrap64 (x7_1 + 1)), (by first | rfl | (simp; done) | (simp [*]; done)), H', ⟨by have := HK1.out; have := HJ3.out; omega⟩, by repeat (first | exact Drawn0.refl _ | apply Drawn0.step)⟩
              · rw [if_neg c8] at H
                exact absurd H (by simp)
            · rw [if_neg c7] at H
              exact absurd H (by simp)
          · replace c6 := Bool.eq_false_iff.mpr c6
            subst c6
            have H1 : (some (decide ((l0.length : Int) > a1))) = some r := by rw [if_neg (show ¬ (false = true) by decide)] at H; exact H
            clear H
            have H := H1
            clear H1
            obtain rfl := Option.some.inj H
            go_wp2
            go_ret
            exact ⟨by first | rfl | (simp; done) | (simp [*]; done), by repeat (first | exact Drawn0.refl _ | apply Drawn0.step)⟩
mutual
def estreatref15_GreatRows.l0 : Nat → List (List (S68)) → Int → Int → Int → Int → Option (Bool)
  | 0, _, _, _, _, _ => none
  | k + 1, x0, x1, x2, x3, x9 => if x9 < (x0.length : Int) then (estreatref15_GreatRows.j1 k x0 x1 x2 x3 x9 (decide (x9 < x1))) else (estreatref15_GreatRows.j1 k x0 x1 x2 x3 x9 false)
def estreatref15_GreatRows.j1 : Nat → List (List (S68)) → Int → Int → Int → Int → Bool → Option (Bool)
  | 0, _, _, _, _, _, _ => none
  | k + 1, x0, x1, x2, x3, x9, x18 => if x18 = true then (if 0 ≤ x9 then (if x9 < (x0.length : Int) then ((estreatref14_Great.f k (rd_L6 x0 x9) x2 x3).bind fun t103 => (if t103 = true then (some true) else (estreatref15_GreatRows.l0 k x0 x1 x2 x3 (wrap64 (x9 + 1))))) else (none)) else (none)) else (some (decide ((x0.length : Int) > x1)))
end
def estreatref15_GreatRows.f (k : Nat) (l0 : List (List (S68))) (a1 : Int) (a2 : Int) (a3 : Int) : Option (Bool) := estreatref15_GreatRows.l0 k l0 a1 a2 a3 0
theorem estreatref15_GreatRows.mono_l : ∀ k, (∀ y0 y1 y2 y3 y4, LeO (estreatref15_GreatRows.l0 k y0 y1 y2 y3 y4) (estreatref15_GreatRows.l0 (k + 1) y0 y1 y2 y3 y4)) ∧ (∀ y0 y1 y2 y3 y4 y5, LeO (estreatref15_GreatRows.j1 k y0 y1 y2 y3 y4 y5) (estreatref15_GreatRows.j1 (k + 1) y0 y1 y2 y3 y4 y5))
  | 0 => ⟨fun _ _ _ _ _ r h => by simp [estreatref15_GreatRows.l0] at h, fun _ _ _ _ _ _ r h => by simp [estreatref15_GreatRows.j1] at h⟩
  | k + 1 => by
    obtain ⟨ih0, ih1⟩ := estreatref15_GreatRows.mono_l k
    refine ⟨?_, ?_⟩
    · intro y0 y1 y2 y3 y4
      unfold estreatref15_GreatRows.l0
      repeat' first
      | (with_reducible exact ih0 _ _ _ _ _)
      | (with_reducible exact ih1 _ _ _ _ _ _)
      | (with_reducible exact estreatref14_Great.mono _ _ _ _)
      | (with_reducible exact LeO.refl _)
      | (with_reducible exact LeO.none _)
      | (with_reducible refine LeO.ite ?_ ?_)
      | (with_reducible refine LeO.bind ?_ (fun _ => ?_))
      | exact ih0 _ _ _ _ _
      | exact ih1 _ _ _ _ _ _
      | exact estreatref14_Great.mono _ _ _ _
      | exact LeO.none _
      | refine LeO.ite ?_ ?_
      | refine LeO.bind ?_ (fun _ => ?_)
    · intro y0 y1 y2 y3 y4 y5
      unfold estreatref15_GreatRows.j1
      repeat' first
      | (with_reducible exact ih0 _ _ _ _ _)
      | (with_reducible exact ih1 _ _ _ _ _ _)
      | (with_reducible exact estreatref14_Great.mono _ _ _ _)
      | (with_reducible exact LeO.refl _)
      | (with_reducible exact LeO.none _)
      | (with_reducible refine LeO.ite ?_ ?_)
      | (with_reducible refine LeO.bind ?_ (fun _ => ?_))
      | exact ih0 _ _ _ _ _
      | exact ih1 _ _ _ _ _ _
      | exact estreatref14_Great.mono _ _ _ _
      | exact LeO.none _
      | refine LeO.ite ?_ ?_
      | refine LeO.bind ?_ (fun _ => ?_)
theorem estreatref15_GreatRows.mono : ∀ a0 a1 a2 a3 k, LeO (estreatref15_GreatRows.f k a0 a1 a2 a3) (estreatref15_GreatRows.f (k + 1) a0 a1 a2 a3) := by
  intro a0 a1 a2 a3 k
  obtain ⟨ih0, ih1⟩ := estreatref15_GreatRows.mono_l k
  unfold estreatref15_GreatRows.f
  repeat' first
      | (with_reducible exact ih0 _ _ _ _ _)
      | (with_reducible exact ih1 _ _ _ _ _ _)
      | (with_reducible exact estreatref14_Great.mono _ _ _ _)
      | (with_reducible exact LeO.refl _)
      | (with_reducible exact LeO.none _)
      | (with_reducible refine LeO.ite ?_ ?_)
      | (with_reducible refine LeO.bind ?_ (fun _ => ?_))
      | exact ih0 _ _ _ _ _
      | exact ih1 _ _ _ _ _ _
      | exact estreatref14_Great.mono _ _ _ _
      | exact LeO.none _
      | refine LeO.ite ?_ ?_
      | refine LeO.bind ?_ (fun _ => ?_)
set_option maxHeartbeats 8000000 in
set_option maxRecDepth 100000 in
theorem estreatref15_GreatRows.calls (k : Nat) (A0 : Option Addr) (c0 : Nat) (l0 : List (List (S68))) (a1 : Int) (a2 : Int) (a3 : Int) (r : Bool) (w : World) (hr0 : Kd.C (Kd.slice 68 k68) w A0 l0.length l0) (hc0 : l0.length ≤ c0) (h : estreatref15_GreatRows.f k l0 a1 a2 a3 = some r) :
    Calls Tryz.prog 27 #[.slice A0 l0.length c0, .int .i64 a1, .int .i64 a2, .int .i64 a3] w fun e w' => e = .returned (.bool r) ∧ Drawn0 w w' := by
  have HR0 := Aside0.mk hr0
  have HC0 := Aside0.mk hc0
  clear hr0 hc0
  have H : (estreatref15_GreatRows.l0 k l0 a1 a2 a3 0) = some r := h
  clear h
  have H' := Aside0.mk H
  clear H
  go_enter Tryz.func27, Tryz.ntmps27
  go_wp2
  go_loopg [9] k (fun kq v9 w' => ∃ (x9_1 : Int), v9 = .int .i64 x9_1 ∧ Aside0 (estreatref15_GreatRows.l0 kq l0 a1 a2 a3 x9_1 = some r) ∧ Aside0 (kq ≤ k) ∧ Drawn0 w w')
  case atStart => exact ⟨(0), (by first | rfl | (simp; done) | (simp [*]; done)), H', ⟨Nat.le_refl _⟩, by repeat (first | exact Drawn0.refl _ | apply Drawn0.step)⟩
  case round =>
    clear H'
    try clear c2
    try clear p2
    obtain ⟨x9_1, rfl, HA, HK1, ⟨m1, rfl⟩⟩ := hrel
    cases gk with
    | zero => exact absurd HA.out (by simp [estreatref15_GreatRows.l0])
    | succ k1 =>
      have H := HA.out
      clear HA
      simp only [estreatref15_GreatRows.l0] at H
      have HC5 := Aside0.mk H
      clear H
      go_upto_region 2 with (fail)
      go_cut [18] (fun v18 wc => ∃ (kq : Nat) (x18_4 : Bool), v18 = .bool x18_4 ∧ Aside0 (estreatref15_GreatRows.j1 kq l0 a1 a2 a3 x9_1 x18_4 = some r) ∧ Aside0 (kq ≤ k1) ∧ Drawn0 w wc)
      case first =>
        have H := HC5.out
        clear HC5
        by_cases c6 : x9_1 < (l0.length : Int)
        · rw [if_pos c6] at H
          have c6b0 : decide (x9_1 < (l0.length : Int)) = true := decide_eq_true c6
          clear c6
          (first | rw [c6b0] | (simp only [i64_w, i32_w]; rw [c6b0]) | skip)
          have H' := Aside0.mk H
          clear H
          go_wp2
          go_meet
          case rel => exact ⟨_, (decide (x9_1 < a1)), (by first | rfl | (simp; done) | (simp [*]; done)), H', ⟨by have := HK1.out; first | omega | exact Nat.le_refl _⟩, by repeat (first | exact Drawn0.refl _ | apply Drawn0.step)⟩
        · rw [if_neg c6] at H
          have c6b0 : decide (x9_1 < (l0.length : Int)) = false := decide_eq_false c6
          clear c6
          (first | rw [c6b0] | (simp only [i64_w, i32_w]; rw [c6b0]) | skip)
          have H' := Aside0.mk H
          clear H
          go_wp2
          go_meet
          case rel => exact ⟨_, (false), (by first | rfl | (simp; done) | (simp [*]; done)), H', ⟨by have := HK1.out; first | omega | exact Nat.le_refl _⟩, by repeat (first | exact Drawn0.refl _ | apply Drawn0.step)⟩
      case rest =>
        clear HC5
        try clear c2
        try clear p2
        try clear c6
        try clear c6b0
        try clear p2
        obtain ⟨kq, x18_4, rfl, HA, HJ4, ⟨mc4, rfl⟩⟩ := hcut
        cases kq with
        | zero => exact absurd HA.out (by simp [estreatref15_GreatRows.j1])
        | succ kj4 =>
          have H := HA.out
          clear HA
          simp only [estreatref15_GreatRows.j1] at H
          by_cases c7 : x18_4 = true
          · subst c7
            have H1 : (if 0 ≤ x9_1 then (if x9_1 < (l0.length : Int) then ((estreatref14_Great.f kj4 (rd_L6 l0 x9_1) a2 a3).bind fun t103 => (if t103 = true then (some true) else (estreatref15_GreatRows.l0 kj4 l0 a1 a2 a3 (wrap64 (x9_1 + 1))))) else (none)) else (none)) = some r := by rw [if_pos rfl] at H; exact H
            clear H
            have H := H1
            clear H1
            by_cases c8 : 0 ≤ x9_1
            · rw [if_pos c8] at H
              have c8b0 : decide (0 ≤ x9_1) = true := decide_eq_true c8
              clear c8
              by_cases c9 : x9_1 < (l0.length : Int)
              · rw [if_pos c9] at H
                have c9b0 : decide (x9_1 < (l0.length : Int)) = true := decide_eq_true c9
                clear c9
                replace H := Option.bind_eq_some_iff.mp H
                obtain ⟨t103, A100, H⟩ := H
                replace H : (if t103 = true then (some true) else (estreatref15_GreatRows.l0 kj4 l0 a1 a2 a3 (wrap64 (x9_1 + 1)))) = some r := H
                have A10 := Aside0.mk A100
                clear A100
                by_cases c11 : t103 = true
                · subst c11
                  have H1 : (some true) = some r := by rw [if_pos rfl] at H; exact H
                  clear H
                  have H := H1
                  clear H1
                  obtain rfl := Option.some.inj H
                  have p102 : 0 ≤ (x9_1 : Int) := of_decide_eq_true (by first | (with_reducible assumption) | assumption)
                  have q102 : x9_1 < (l0.length : Int) := of_decide_eq_true (by first | (with_reducible assumption) | assumption)
                  obtain ⟨ad102, A102_0, c102_0, e102, hx102_0, hl102_0, hi102_0⟩ := at_L6 HR0.out x9_1 p102 q102
                  cases e102
                  have HR102_0 := Aside0.mk hi102_0
                  have HC102_0 := Aside0.mk hl102_0
                  clear hi102_0 hl102_0
                  replace p102 := eq_true p102
                  replace q102 := eq_true q102
                  go_wp2_with (first | ((with_reducible refine gate_callee (f := 68) rfl ?_); refine goesL_ (some 27) rfl rfl Tryz.func68 (by kernel_rfl) rfl #[.slice A102_0 (rd_L6 l0 x9_1).length c102_0, .int .i64 a2, .int .i64 a3] rfl (by (try simp only [List.map_toArray, List.map_cons, List.map_nil]); first | done | rfl | (simp only [List.length_drop, List.length_take]; rfl)) ?_; (with_reducible refine (estreatref14_Great.calls kj4 _ _ (rd_L6 l0 x9_1) a2 a3 true _ ?side1 ?side2 A10.out).mono ?_); (case side1 => repeat (first | exact HR102_0.out | (with_reducible refine Kd.C_alloc ?_ _) | (with_reducible refine Kd.C_drewN ?_ _) | (with_reducible refine Kd.C_drew ?_))); (case side2 => exact HC102_0.out); rintro e w' ⟨rfl, ⟨nd, rfl⟩⟩; refine ⟨_, rfl, ?_⟩))
                  go_ret
                  exact ⟨by first | rfl | (simp; done) | (simp [*]; done), by repeat (first | exact Drawn0.refl _ | apply Drawn0.step)⟩
                · replace c11 := Bool.eq_false_iff.mpr c11
                  subst c11
                  have H1 : (estreatref15_GreatRows.l0 kj4 l0 a1 a2 a3 (wrap64 (x9_1 + 1))) = some r := by rw [if_neg (show ¬ (false = true) by decide)] at H; exact H
                  clear H
                  have H := H1
                  clear H1
                  have H' := Aside0.mk H
                  clear H
                  have p102 : 0 ≤ (x9_1 : Int) := of_decide_eq_true (by first | (with_reducible assumption) | assumption)
                  have q102 : x9_1 < (l0.length : Int) := of_decide_eq_true (by first | (with_reducible assumption) | assumption)
                  obtain ⟨ad102, A102_0, c102_0, e102, hx102_0, hl102_0, hi102_0⟩ := at_L6 HR0.out x9_1 p102 q102
                  cases e102
                  have HR102_0 := Aside0.mk hi102_0
                  have HC102_0 := Aside0.mk hl102_0
                  clear hi102_0 hl102_0
                  replace p102 := eq_true p102
                  replace q102 := eq_true q102
                  go_wp2_with (first | ((with_reducible refine gate_callee (f := 68) rfl ?_); refine goesL_ (some 27) rfl rfl Tryz.func68 (by kernel_rfl) rfl #[.slice A102_0 (rd_L6 l0 x9_1).length c102_0, .int .i64 a2, .int .i64 a3] rfl (by (try simp only [List.map_toArray, List.map_cons, List.map_nil]); first | done | rfl | (simp only [List.length_drop, List.length_take]; rfl)) ?_; (with_reducible refine (estreatref14_Great.calls kj4 _ _ (rd_L6 l0 x9_1) a2 a3 false _ ?side1 ?side2 A10.out).mono ?_); (case side1 => repeat (first | exact HR102_0.out | (with_reducible refine Kd.C_alloc ?_ _) | (with_reducible refine Kd.C_drewN ?_ _) | (with_reducible refine Kd.C_drew ?_))); (case side2 => exact HC102_0.out); rintro e w' ⟨rfl, ⟨nd, rfl⟩⟩; refine ⟨_, rfl, ?_⟩))
                  go_roundg kj4
                  case measure => have := HK1.out; have := HJ4.out; omega
                  case rel => exact ⟨(wrap64 (x9_1 + 1)), (by first | rfl | (simp; done) | (simp [*]; done)), H', ⟨by have := HK1.out; have := HJ4.out; omega⟩, by repeat (first | exact Drawn0.refl _ | apply Drawn0.step)⟩
              · rw [if_neg c9] at H
                exact absurd H (by simp)
            · rw [if_neg c8] at H
              exact absurd H (by simp)
          · replace c7 := Bool.eq_false_iff.mpr c7
            subst c7
            have H1 : (some (decide ((l0.length : Int) > a1))) = some r := by rw [if_neg (show ¬ (false = true) by decide)] at H; exact H
            clear H
            have H := H1
            clear H1
            obtain rfl := Option.some.inj H
            go_wp2
            go_ret
            exact ⟨by first | rfl | (simp; done) | (simp [*]; done), by repeat (first | exact Drawn0.refl _ | apply Drawn0.step)⟩
end Go.Proofs.YtjmhiklmlgbifaaGreatDoor.PMan
end
section
namespace Go.Proofs.YtjmhiklmlgbifaaGreatDoor.PMan
open Go.RowKit Go.Proofs.YtjmhiklmlgbifaaGreatDoorW.PrintWords Go.Proofs.YtjmhiklmlgbifaaGreatDoorW.PrintLast Go.Proofs.YtjmhiklmlgbifaaGreatDoorW.PrintMore
set_option linter.unusedVariables false
set_option linter.unusedSimpArgs false
theorem refOf_p (c : S123) (h : c.f0 = 1 ∨ c.f0 = 2) (hn : ¬ c.f2 = (-1)) : estreatref14_Of.f c.f2 c.f0 = some (wayP c) := by
  unfold estreatref14_Of.f wayP
  rcases h with h | h
  · rw [h]
    by_cases a : c.f2 ≥ 0
    · by_cases b : c.f2 ≤ 4
      · simp [a, b]; omega
      · simp [a, b]
    · simp [a]; omega
  · rw [h]
    simp [hn]
theorem wayP_auto (c : S123) (hn : c.f2 = (-1)) : wayP c = true := by
  unfold wayP
  rw [hn]
  by_cases h : c.f0 = 2
  · rw [if_pos h, if_pos rfl]
  · rw [if_neg h, if_pos (by decide)]; rfl
theorem refSchema_l1 (s : List S123) (hb : s.length < 1000000000) (hk : ∀ c ∈ s, c.f0 = 1 ∨ c.f0 = 2) : ∀ n j k, j + n = s.length → estreatref15_Schema.l1 (n + 1 + k) s (j : Int) = some (waysL (s.drop j))
  | 0, j, k, e => by
    rw [Nat.zero_add, Nat.add_comm 1 k, estreatref15_Schema.l1, if_neg (by omega), List.drop_eq_nil_of_le (by omega)]
    rfl
  | n + 1, j, k, e => by
    have hw : wrap64 ((j : Int) + 1) = ((j + 1 : Nat) : Int) := by unfold wrap64; omega
    have e1 : rd_T123 s (j : Int) = s.getD j z123 := rfl
    rw [show n + 1 + 1 + k = (n + 1 + k) + 1 by omega, estreatref15_Schema.l1, if_pos (by omega), if_pos (by omega), drop_cons s j z123 (by omega), e1, waysL, hw, refSchema_l1 s hb hk n (j + 1) k (by omega)]
    by_cases h : (s.getD j z123).f2 = (-1)
    · rw [if_pos h, if_pos (wayP_auto _ h)]
    · rw [if_neg h, refOf_p _ (hk _ ((fun l j d h => by rw [List.getD_eq_getElem?_getD, List.getElem?_eq_getElem h]; exact List.getElem_mem h : ∀ (l : List S123) (j : Nat) (d : S123), j < l.length → l.getD j d ∈ l) s j z123 (by omega))) h, Option.bind_some]
      split <;> rfl
theorem refSchema_l0 (s : List S123) (hb : s.length < 1000000000) : ∀ n j k, j + n = s.length → (∀ i, i < j → (s.getD i z123).f0 = 1 ∨ (s.getD i z123).f0 = 2) → estreatref15_Schema.l0 (n + 1 + (s.length + 1 + k)) s (j : Int) = some (if kindsL (s.drop j) = 0 then waysL s else kindsL (s.drop j))
  | 0, j, k, e, hj => by
    rw [Nat.zero_add, Nat.add_comm 1 _, estreatref15_Schema.l0, if_neg (by omega), List.drop_eq_nil_of_le (by omega)]
    have := refSchema_l1 s hb (fun c hc => by
      obtain ⟨i, hi, rfl⟩ := List.getElem_of_mem hc
      have := hj i (by omega)
      rwa [List.getD_eq_getElem?_getD, List.getElem?_eq_getElem hi] at this) s.length 0 k (by omega)
    rw [List.drop_zero] at this
    exact this
  | n + 1, j, k, e, hj => by
    have hw : wrap64 ((j : Int) + 1) = ((j + 1 : Nat) : Int) := by unfold wrap64; omega
    have e1 : rd_T123 s (j : Int) = s.getD j z123 := rfl
    rw [show n + 1 + 1 + (s.length + 1 + k) = (n + 1 + (s.length + 1 + k)) + 1 by omega, estreatref15_Schema.l0, if_pos (by omega), if_pos (by omega), drop_cons s j z123 (by omega), e1, kindsL, hw]
    have hs : ∀ h, _ := refSchema_l0 s hb n (j + 1) k (by omega)
    by_cases h1 : (s.getD j z123).f0 = 1
    · rw [if_pos h1, if_pos h1, hs (fun i hi => by rcases Nat.lt_succ_iff_lt_or_eq.1 hi with h | rfl; exact hj i h; exact .inl h1)]
    · rw [if_neg h1, if_neg h1]
      by_cases h2 : (s.getD j z123).f0 = 2
      · rw [if_pos h2, if_pos h2, hs (fun i hi => by rcases Nat.lt_succ_iff_lt_or_eq.1 hi with h | rfl; exact hj i h; exact .inr h2)]
      · rw [if_neg h2, if_neg h2]
        rfl
theorem refSchema_p (s : List S123) (hb : s.length < 1000000000) : estreatref15_Schema.f (s.length + 1 + (s.length + 1 + 0) + 1) s = some (schemaP s) := by
  unfold estreatref15_Schema.f schemaP
  by_cases h1 : (s.length : Int) = 0
  · rw [if_pos h1, estreatref15_Schema.j0, if_pos rfl, if_pos (by omega)]
  · rw [if_neg h1, if_neg (by omega)]
    by_cases h2 : (s.length : Int) > 64
    · rw [decide_eq_true h2, estreatref15_Schema.j0, if_pos rfl, if_pos h2]
    · rw [decide_eq_false h2, estreatref15_Schema.j0, if_neg (by decide), if_neg h2]
      have := refSchema_l0 s hb s.length 0 0 (by omega) (fun i hi => by omega)
      rw [List.drop_zero] at this
      exact this
theorem refSchema_calls (A0 : Option Addr) (c0 : Nat) (s : List S123) (w : World) (hr0 : Kd.C k123 w A0 s.length s) (hc0 : s.length ≤ c0) (hb : s.length < 1000000000) :
    Calls Tryz.prog 49 #[.slice A0 s.length c0] w fun e w' => e = .returned (.int .i64 (schemaP s)) ∧ Drawn0 w w' :=
  estreatref15_Schema.calls _ A0 c0 s _ w hr0 hc0 (refSchema_p s hb)
theorem or128 (x : Int) (h0 : 0 ≤ x) (h1 : x < 256) : Go.bits .or .u8 x 128 = (128 + x % 128) % 256 := by
  obtain ⟨n, rfl⟩ : ∃ n : Nat, x = (n : Int) := ⟨x.toNat, by omega⟩
  have : ∀ a : Fin 256, Go.bits .or .u8 ((a.val : Nat) : Int) 128 = (128 + ((a.val : Nat) : Int) % 128) % 256 := by decide +kernel
  exact this ⟨n, by omega⟩
theorem refVar_n : ∀ (n : Nat) (x : Int), 0 ≤ x → x < 128 ^ (n + 1) → x < 18446744073709551616 → n < 100 → estreatref01_Var.f (n + 1) x = some (varN n x)
  | 0, x, h0, h1, h2, hn => by
    rw [estreatref01_Var.f, if_pos (by omega)]
    rfl
  | n + 1, x, h0, h1, h2, hn => by
    rw [estreatref01_Var.f, varN]
    by_cases h : x < 128
    · rw [if_pos h, if_neg (by omega)]
    · have e1 : Int.tdiv x 128 = x / 128 := Int.tdiv_eq_ediv_of_nonneg h0
      have e2 : Int.tmod x 128 = x % 128 := Int.tmod_eq_emod_of_nonneg h0
      have e3 : IntKind.u64.wrap (x / 128) = x / 128 := u64_small _ (by omega) (by omega)
      have e4 : IntKind.u64.wrap (128 + x % 128) = 128 + x % 128 := u64_small _ (by omega) (by omega)
      have hv := varN_len n (x / 128)
      rw [if_neg h, if_pos (by omega), Option.bind_some, e1, e2, e3, e4, refVar_n n (x / 128) (by omega) (by rw [Int.pow_succ] at h1; omega) (by omega) (by omega), Option.bind_some, if_pos (by rw [List.length_singleton]; omega), or128 (x % 256) (by omega) (by omega)]
      have e5 : x % 256 % 128 = x % 128 := by omega
      rw [e5]
      rfl
theorem refVar_p (x : Int) (h0 : 0 ≤ x) (h1 : x < 18446744073709551616) : estreatref01_Var.f 10 x = some (varP x) :=
  refVar_n 9 x h0 (by have : (128 : Int) ^ (9 + 1) = 1180591620717411303424 := by decide
                      omega) h1 (by omega)
theorem refVar_calls (x : Int) (w : World) (h0 : 0 ≤ x) (h1 : x < 18446744073709551616) :
    Calls Tryz.prog 36 #[.int .u64 x] w fun e w' => ∃ v : Value, e = .returned v ∧ Kd.R (Kd.int .u8) 5 w' w.heap.size (fun _ => True) v (varP x) ∧ Below w.heap.size w w' :=
  estreatref01_Var.calls 10 x _ w (refVar_p x h0 h1)
theorem refVarW_calls (x : Int) (w : World) (h0 : 0 ≤ x) (h1 : x < 18446744073709551616) :
    Calls Tryz.prog 36 #[.int .u64 (IntKind.u64.wrap x)] w fun e w' => ∃ v : Value, e = .returned v ∧ Kd.R (Kd.int .u8) 5 w' w.heap.size (fun _ => True) v (varP x) ∧ Below w.heap.size w w' := by
  rw [u64_small x h0 h1]
  exact refVar_calls x w h0 h1
theorem refBlob_p (l : List Int) (hl : l.length < 1000000000000) : estreatref01_Blob.f 10 l = some (varP l.length ++ l) := by
  have hv := varP_len (l.length : Int)
  rw [estreatref01_Blob.f, u64_small _ (by omega) (by omega), refVar_p _ (by omega) (by omega), Option.bind_some, if_pos (by omega)]
theorem refBlob_calls (A0 : Option Addr) (c0 : Nat) (l : List Int) (w : World) (hr0 : Kd.C (Kd.int .u8) w A0 l.length l) (hc0 : l.length ≤ c0) (hl : l.length < 1000000000000) :
    Calls Tryz.prog 39 #[.slice A0 l.length c0] w fun e w' => ∃ v : Value, e = .returned v ∧ Kd.R (Kd.int .u8) 5 w' w.heap.size (fun _ => True) v (varP l.length ++ l) ∧ Below w.heap.size w w' :=
  estreatref01_Blob.calls 10 A0 c0 l _ w hr0 hc0 (refBlob_p l hl)
end Go.Proofs.YtjmhiklmlgbifaaGreatDoor.PMan
end
section
namespace Go.Proofs.YtjmhiklmlgbifaaGreatDoor.PMan
open Go.RowKit Go.Proofs.YtjmhiklmlgbifaaGreatDoorW.PrintWords Go.Proofs.YtjmhiklmlgbifaaGreatDoorW.PrintLast Go.Proofs.YtjmhiklmlgbifaaGreatDoorW.PrintMore
set_option linter.unusedVariables false
set_option linter.unusedSimpArgs false
set_option maxHeartbeats 3200000 in
set_option maxRecDepth 100000 in
theorem refCmp_calls (a b : S68) (w : World) : Calls Tryz.prog 133 #[.agg #[.int .i64 a.f0, .int .i64 a.f1, .string a.f2], .agg #[.int .i64 b.f0, .int .i64 b.f1, .string b.f2]] w fun e w' => e = .returned (.int .i64 (cmpP a b)) ∧ Below w.heap.size w w' := by
  obtain ⟨r, hr⟩ : ∃ r, r = cmpP a b := ⟨_, rfl⟩
  rw [← hr]
  unfold cmpP cmpI cmpS at hr
  have HR := Aside0.mk hr
  clear hr
  go_enter Tryz.func133, Tryz.ntmps133
  go_wp2
  all_goals go_ret
  all_goals (refine ⟨?_, below_alloc (below_alloc (Below.refl _ _) _) _⟩; have e := HR.out; clear HR; subst e)
  all_goals (refine congrArg (fun x => Ending.returned (Value.int .i64 x)) (?_ : (_ : Int) = _); repeat' split)
  all_goals first | rfl | omega | (simp_all; done) | (simp_all; omega)
set_option maxHeartbeats 1600000 in
theorem refcmp_calls (a b : S68) (w : World) : Calls Tryz.prog 114 #[.agg #[.int .i64 a.f0, .int .i64 a.f1, .string a.f2], .agg #[.int .i64 b.f0, .int .i64 b.f1, .string b.f2]] w fun e w' => e = .returned (.int .i64 (cmpP a b)) ∧ Below w.heap.size w w' := by
  go_enter Tryz.func114, Tryz.ntmps114
  go_wp2_with (go_at_call 133; refine (refCmp_calls a b _).mono ?_; rintro e w1 ⟨rfl, hb⟩)
  go_ret
  exact ⟨rfl, below_call (below_alloc (below_alloc (Below.refl _ _) _) _) hb⟩
def rightR (v : S68) (kind : Int) : Bool := if v.f0 = 0 then (if v.f1 = 0 then v.f2.toList == ([] : List UInt8) else false) else (if v.f0 = kind then (if kind = 1 then (if v.f2.toList = ([] : List UInt8) then true else (if kind = 2 then v.f1 == 0 else false)) else (if kind = 2 then v.f1 == 0 else false)) else false)
theorem refRight_calls (v : S68) (kind : Int) (w : World) : Calls Tryz.prog 84 #[.agg #[.int .i64 v.f0, .int .i64 v.f1, .string v.f2], .int .i64 kind] w fun e w' => e = .returned (.bool (rightR v kind)) ∧ Below w.heap.size w w' :=
  estreatref14_Right.calls v.f0 v.f1 v.f2 kind _ w (by
    unfold estreatref14_Right.f rightR
    repeat' split
    all_goals rfl)
def zoneR (z : S70) (rows kind : Int) : Bool :=
  if z.f0 < 0 then false else if z.f0 > rows then false else if (z.f1 != decide (z.f0 < rows)) = true then false else
  if z.f1 = true then (kind == 1 || kind == 2) && ((z.f2.f0 == kind) && ((z.f3.f0 == kind) && (rightR z.f2 kind && (rightR z.f3 kind && (decide ((z.f2.f2.size : Int) ≤ 65536) && (decide ((z.f3.f2.size : Int) ≤ 65536) && decide (cmpP z.f2 z.f3 ≤ 0)))))))
  else zeroV z.f2 && zeroV z.f3
theorem rightP_R (v : S68) (kind : Int) (hk : kind = 1 ∨ kind = 2) : rightP kind v = ((v.f0 == kind) && (rightR v kind && decide ((v.f2.size : Int) ≤ 65536))) := by
  unfold rightP rowP rightR
  rw [if_pos (by simp), rowL, show rowL ([] : List S123) ([] : List S68) = 0 from rfl]
  unfold standsP zeroV
  rcases hk with rfl | rfl
  · by_cases h : v.f0 = 1
    · by_cases g : v.f2.toList = []
      · by_cases q : (v.f2.size : Int) ≤ 65536
        · simp [h, g, q]
        · simp [h, g, q]
      · simp [h, g]
    · simp [h]
  · by_cases h : v.f0 = 2
    · by_cases g : v.f1 = 0
      · by_cases q : (v.f2.size : Int) ≤ 65536
        · simp [h, g, q]
        · simp [h, g, q]
      · simp [h, g]
    · simp [h]
theorem zoneR_P (z : S70) (rows kind : Int) : zoneR z rows kind = zoneP z rows kind := by
  unfold zoneR zoneP
  by_cases hk : kind = 1 ∨ kind = 2
  · rw [rightP_R _ _ hk, rightP_R _ _ hk]
    repeat' split
    all_goals first | rfl | (cases (kind == 1 || kind == 2) <;> cases (z.f2.f0 == kind) <;> cases (z.f3.f0 == kind) <;> cases rightR z.f2 kind <;> cases rightR z.f3 kind <;> cases decide ((z.f2.f2.size : Int) ≤ 65536) <;> cases decide ((z.f3.f2.size : Int) ≤ 65536) <;> rfl)
  · have : (kind == 1 || kind == 2) = false := by simpa using hk
    rw [this]
    rfl
set_option maxHeartbeats 3200000 in
set_option maxRecDepth 100000 in
theorem refZone_some (n : Int) (v1 v2 : S68) (rows kind : Int) (hk : kind = 1 ∨ kind = 2) (h1 : ¬ n < 0) (h2 : ¬ n > rows) (h3 : n < rows) (w : World) :
    Calls Tryz.prog 83 #[.agg #[.int .i64 n, .bool true, .int .i64 v1.f0, .int .i64 v1.f1, .string v1.f2, .int .i64 v2.f0, .int .i64 v2.f1, .string v2.f2], .int .i64 rows, .int .i64 kind] w fun e w' => e = .returned (.bool ((v1.f0 == kind) && ((v2.f0 == kind) && (rightR v1 kind && (rightR v2 kind && (decide ((v1.f2.size : Int) ≤ 65536) && (decide ((v2.f2.size : Int) ≤ 65536) && decide (cmpP v1 v2 ≤ 0)))))))) ∧ Below w.heap.size w w' := by
  have hd : decide (n < rows) = true := decide_eq_true h3
  obtain ⟨r, hr⟩ : ∃ r, r = ((v1.f0 == kind) && ((v2.f0 == kind) && (rightR v1 kind && (rightR v2 kind && (decide ((v1.f2.size : Int) ≤ 65536) && (decide ((v2.f2.size : Int) ≤ 65536) && decide (cmpP v1 v2 ≤ 0))))))) := ⟨_, rfl⟩
  rw [← hr]
  have HR := Aside0.mk hr
  clear hr
  have HX0 := Aside0.mk (heap_alloc_new w (.cells #[.int .i64 n, .bool true, .int .i64 v1.f0, .int .i64 v1.f1, .string v1.f2, .int .i64 v2.f0, .int .i64 v2.f1, .string v2.f2] 70))
  have HB0 := Aside0.mk (below_alloc (Below.refl w.heap.size w) (.cells #[.int .i64 n, .bool true, .int .i64 v1.f0, .int .i64 v1.f1, .string v1.f2, .int .i64 v2.f0, .int .i64 v2.f1, .string v2.f2] 70))
  obtain ⟨a1, ha1⟩ : ∃ a : Bool, (v1.f0 == kind) = a := ⟨_, rfl⟩
  obtain ⟨a2, ha2⟩ : ∃ a : Bool, (v2.f0 == kind) = a := ⟨_, rfl⟩
  obtain ⟨a3, ha3⟩ : ∃ a : Bool, decide ((v1.f2.size : Int) ≤ 65536) = a := ⟨_, rfl⟩
  obtain ⟨a4, ha4⟩ : ∃ a : Bool, decide ((v2.f2.size : Int) ≤ 65536) = a := ⟨_, rfl⟩
  obtain ⟨r1, hr1⟩ : ∃ a : Bool, rightR v1 kind = a := ⟨_, rfl⟩
  obtain ⟨r2, hr2⟩ : ∃ a : Bool, rightR v2 kind = a := ⟨_, rfl⟩
  have HE0 := HR.out
  rw [ha1, ha2, ha3, ha4, hr1, hr2] at HE0
  have HE := Aside0.mk HE0
  clear HR HE0
  rcases hk with rfl | rfl
  all_goals (
    cases a1 with
    | false =>
      go_enter Tryz.func83, Tryz.ntmps83
      go_wp2
      go_ret
      exact ⟨by rw [HE.out]; rfl, HB0.out⟩
    | true =>
    cases a2 with
    | false =>
      go_enter Tryz.func83, Tryz.ntmps83
      go_wp2
      go_ret
      exact ⟨by rw [HE.out]; rfl, HB0.out⟩
    | true =>
    go_enter Tryz.func83, Tryz.ntmps83
    go_wp2_with fail
    refine (refRight_calls v1 _ _).mono ?_
    rintro e wa ⟨rfl, hb⟩
    have HXa := Aside0.mk ((hb.block _ (blk_lt HX0.out)).trans HX0.out)
    have HBa := Aside0.mk (below_call HB0.out hb)
    clear hb
    have p2 : wa.cell? ⟨w.heap.size, 2, none⟩ = some (.int .i64 v1.f0) := blk_cell HXa.out 2
    have p3 : wa.cell? ⟨w.heap.size, 3, none⟩ = some (.int .i64 v1.f1) := blk_cell HXa.out 3
    have p4 : wa.cell? ⟨w.heap.size, 4, none⟩ = some (.string v1.f2) := blk_cell HXa.out 4
    have p5 : wa.cell? ⟨w.heap.size, 5, none⟩ = some (.int .i64 v2.f0) := blk_cell HXa.out 5
    have p6 : wa.cell? ⟨w.heap.size, 6, none⟩ = some (.int .i64 v2.f1) := blk_cell HXa.out 6
    have p7 : wa.cell? ⟨w.heap.size, 7, none⟩ = some (.string v2.f2) := blk_cell HXa.out 7
    rw [hr1]
    cases r1 with
    | false =>
      go_wp2
      go_ret
      exact ⟨by rw [HE.out]; rfl, HBa.out⟩
    | true =>
    go_wp2_with fail
    refine (refRight_calls v2 _ _).mono ?_
    rintro e wb ⟨rfl, hb⟩
    have HXb := Aside0.mk ((hb.block _ (blk_lt HXa.out)).trans HXa.out)
    have HBb := Aside0.mk (below_call HBa.out hb)
    clear hb p2 p3 p4 p5 p6 p7
    have p2 : wb.cell? ⟨w.heap.size, 2, none⟩ = some (.int .i64 v1.f0) := blk_cell HXb.out 2
    have p3 : wb.cell? ⟨w.heap.size, 3, none⟩ = some (.int .i64 v1.f1) := blk_cell HXb.out 3
    have p4 : wb.cell? ⟨w.heap.size, 4, none⟩ = some (.string v1.f2) := blk_cell HXb.out 4
    have p5 : wb.cell? ⟨w.heap.size, 5, none⟩ = some (.int .i64 v2.f0) := blk_cell HXb.out 5
    have p6 : wb.cell? ⟨w.heap.size, 6, none⟩ = some (.int .i64 v2.f1) := blk_cell HXb.out 6
    have p7 : wb.cell? ⟨w.heap.size, 7, none⟩ = some (.string v2.f2) := blk_cell HXb.out 7
    rw [hr2]
    cases r2 with
    | false =>
      go_wp2
      go_ret
      exact ⟨by rw [HE.out]; rfl, HBb.out⟩
    | true =>
    cases a3 with
    | false =>
      go_wp2
      go_ret
      exact ⟨by rw [HE.out]; rfl, HBb.out⟩
    | true =>
    cases a4 with
    | false =>
      go_wp2
      go_ret
      exact ⟨by rw [HE.out]; rfl, HBb.out⟩
    | true =>
    go_wp2_with fail
    refine (refcmp_calls v1 v2 _).mono ?_
    rintro e wc ⟨rfl, hb⟩
    have HBc := Aside0.mk (below_call HBb.out hb)
    clear hb p2 p3 p4 p5 p6 p7
    go_wp2
    go_ret
    exact ⟨by rw [HE.out]; rfl, HBc.out⟩)
set_option maxHeartbeats 3200000 in
set_option maxRecDepth 100000 in
theorem refZone_no (n : Int) (b : Bool) (v1 v2 : S68) (rows kind : Int) (hk : b = false ∨ n < 0 ∨ n > rows ∨ (b != decide (n < rows)) = true ∨ (kind ≠ 1 ∧ kind ≠ 2)) (w : World) :
    Calls Tryz.prog 83 #[.agg #[.int .i64 n, .bool b, .int .i64 v1.f0, .int .i64 v1.f1, .string v1.f2, .int .i64 v2.f0, .int .i64 v2.f1, .string v2.f2], .int .i64 rows, .int .i64 kind] w fun e w' => e = .returned (.bool (zoneP ⟨n, b, v1, v2⟩ rows kind)) ∧ Below w.heap.size w w' := by
  have hba : ∀ a : Obj, Below w.heap.size w (w.alloc a) := fun a => below_alloc (Below.refl _ _) _
  by_cases h1 : n < 0
  · go_enter Tryz.func83, Tryz.ntmps83
    go_wp2
    go_ret
    exact ⟨by simp [zoneP, h1], hba _⟩
  by_cases h2 : n > rows
  · have h2' : rows < n := h2
    go_enter Tryz.func83, Tryz.ntmps83
    go_wp2
    go_ret
    exact ⟨by simp [zoneP, h2'], hba _⟩
  by_cases hlt : n < rows
  · have hd : decide (n < rows) = true := decide_eq_true hlt
    cases b with
    | false =>
      go_enter Tryz.func83, Tryz.ntmps83
      go_wp2
      all_goals go_ret
      exact ⟨by simp [zoneP, h1, h2, hlt], hba _⟩
    | true =>
      have hk' : kind ≠ 1 ∧ kind ≠ 2 := by
        rcases hk with h | h | h | h | h
        · cases h
        · exact absurd h h1
        · exact absurd h h2
        · rw [hd] at h; cases h
        · exact h
      have k1 : (kind == 1) = false := by simpa using hk'.1
      have k2 : (kind == 2) = false := by simpa using hk'.2
      have hz : zoneP ⟨n, true, v1, v2⟩ rows kind = false := by unfold zoneP; dsimp only; rw [if_neg h1, if_neg h2, if_neg (by rw [hd]; decide), if_pos rfl, k1, k2]; rfl
      rw [hz]
      go_enter Tryz.func83, Tryz.ntmps83
      go_wp2
      all_goals go_ret
      exact ⟨rfl, hba _⟩
  · have hd : decide (n < rows) = false := decide_eq_false hlt
    cases b with
    | true =>
      go_enter Tryz.func83, Tryz.ntmps83
      go_wp2
      all_goals go_ret
      exact ⟨by simp [zoneP, h1, h2, hlt], hba _⟩
    | false =>
      obtain ⟨x, hx⟩ : ∃ x : Bool, x = (zeroV v1 && zeroV v2) := ⟨_, rfl⟩
      have hz : zoneP ⟨n, false, v1, v2⟩ rows kind = x := by rw [hx]; unfold zoneP; dsimp only; rw [if_neg h1, if_neg h2, if_neg (by rw [hd]; decide), if_neg (by decide)]
      rw [hz]
      unfold zeroV at hx
      go_enter Tryz.func83, Tryz.ntmps83
      go_wp2
      all_goals go_ret
      all_goals (refine ⟨?_, hba _⟩; simp_all)
theorem refZone_calls (z : S70) (rows kind : Int) (w : World) :
    Calls Tryz.prog 83 #[.agg #[.int .i64 z.f0, .bool z.f1, .int .i64 z.f2.f0, .int .i64 z.f2.f1, .string z.f2.f2, .int .i64 z.f3.f0, .int .i64 z.f3.f1, .string z.f3.f2], .int .i64 rows, .int .i64 kind] w fun e w' => e = .returned (.bool (zoneP z rows kind)) ∧ Below w.heap.size w w' := by
  obtain ⟨n, b, v1, v2⟩ := z
  by_cases h : b = false ∨ n < 0 ∨ n > rows ∨ (b != decide (n < rows)) = true ∨ (kind ≠ 1 ∧ kind ≠ 2)
  · exact refZone_no n b v1 v2 rows kind h w
  · have hb : b = true := by
      cases b with
      | true => rfl
      | false => exact absurd (.inl rfl) h
    subst hb
    have h3 : decide (n < rows) = true := by
      cases hd : decide (n < rows) with
      | true => rfl
      | false => exact absurd (.inr (.inr (.inr (.inl (by rw [hd]; rfl))))) h
    have h4 : n < rows := of_decide_eq_true h3
    have h1 : ¬ n < 0 := fun q => h (.inr (.inl q))
    have h2 : ¬ n > rows := fun q => h (.inr (.inr (.inl q)))
    have hk : kind = 1 ∨ kind = 2 := by
      by_cases k1 : kind = 1
      · exact .inl k1
      · by_cases k2 : kind = 2
        · exact .inr k2
        · exact absurd (.inr (.inr (.inr (.inr ⟨k1, k2⟩)))) h
    have hz : zoneP ⟨n, true, v1, v2⟩ rows kind = ((v1.f0 == kind) && ((v2.f0 == kind) && (rightR v1 kind && (rightR v2 kind && (decide ((v1.f2.size : Int) ≤ 65536) && (decide ((v2.f2.size : Int) ≤ 65536) && decide (cmpP v1 v2 ≤ 0))))))) := by
      rw [← zoneR_P]
      unfold zoneR
      dsimp only
      rw [if_neg h1, if_neg h2, if_neg (by rw [h3]; decide), if_pos rfl]
      rcases hk with rfl | rfl <;> rfl
    rw [hz]
    exact refZone_some n v1 v2 rows kind hk h1 h2 h4 w
end Go.Proofs.YtjmhiklmlgbifaaGreatDoor.PMan
end

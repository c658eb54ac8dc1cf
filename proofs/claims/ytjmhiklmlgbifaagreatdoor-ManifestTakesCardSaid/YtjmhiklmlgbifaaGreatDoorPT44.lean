/- Texts, put into one. -/
import Derived.Test.YtjmhiklmlgbifaaGreatDoorPT43
import Derived.Test.YtjmhiklmlgbifaaGreatDoorPT17
import Derived.Test.YtjmhiklmlgbifaaGreatDoorPTW
set_option linter.unusedVariables false
set_option linter.unusedSimpArgs false
open Go Go.RowKit Go.Proofs.YtjmhiklmlgbifaaGreatDoorW.PrintWords Go.Proofs.YtjmhiklmlgbifaaGreatDoorW.PrintLast Go.Proofs.YtjmhiklmlgbifaaGreatDoorW.PrintMore
namespace Go.Proofs.YtjmhiklmlgbifaaGreatDoor.PMan
section
attribute [local go_sem] max2_int min2_int max_two min_two max_three min_three max_four min_four
theorem leastF_get : frame_Get.f leastF = some (leastL, 83, 0) := by decide +kernel
theorem leastF_len : leastF.length = 83 := by decide +kernel
theorem m_belowRow {B : Nat} {w W : World} (h : Below B w W) (g : Nat) (hg : B ≤ g) (c : Array Value) : Below B w (W.setRow g c) :=
 ⟨h.os, h.tape, h.output, by rw [setRow_size]; exact h.size, fun k hk => (setRow_other W g k c (by omega)).trans (h.block k hk)⟩
set_option maxHeartbeats 4000000 in
set_option maxRecDepth 100000 in
theorem m_take (A0 : Option Addr) (c0 : Nat) (w : World) (hr0 : Kd.C (Kd.int .u8) w A0 leastF.length leastF) (hc0 : leastF.length ≤ c0) (hG : ErrT w) :
  Calls Tryz.prog 18 #[.slice A0 leastF.length c0] w fun ev w' => ∃ s cs e ce, ev = .returned (.tuple #[ManV s cs e ce, .int .i64 0]) ∧ ManP w' s cs e ce ∧ Below w.heap.size w w' := by
 have HR0 := am hr0
 have HC0 := am hc0
 have HG := am hG
 have hlen : decide ((83 : Int) < (leastF.length : Int)) = false := by rw [leastF_len]; rfl
 clear hr0 hc0 hG
 go_enter Tryz.func18, Tryz.ntmps18
 go_wp2_with fail
 have hm0 : (w.alloc (.cells (MCells 0 0 (.slice none 0 0) 0 (.slice none 0 0)) 27)).heap[w.heap.size]? = some (.cells (MCells 0 0 (.slice none 0 0) 0 (.slice none 0 0)) 27 (0, 0)) := heap_alloc_new w _
 have hb0 : Below w.heap.size w (w.alloc (.cells (MCells 0 0 (.slice none 0 0) 0 (.slice none 0 0)) 27)) := below_alloc (Below.refl _ _) _
 have HM0 := am hm0
 have HB0 := am hb0
 have HR1 := am (Kd.C_below HR0.out hb0)
 have HG0 := am (HG.out.of_below hb0)
 clear hm0 hb0
 generalize w.alloc (.cells (MCells 0 0 (.slice none 0 0) 0 (.slice none 0 0)) 27) = W0 at *
 refine (frame_Get.calls A0 c0 leastF leastL 83 0 W0 HR1.out HC0.out HG0.out leastF_get).mono ?_
 rintro e w1 ⟨v, rfl, hr, hb⟩
 obtain ⟨A, c, rfl⟩ := Kd.R_slice hr
 have hrd := Kd.R_reads' hr
 have HRD := am hrd.2.2
 have HCD := am hrd.2.1
 have HM1 := am ((hb.block _ (blk_lt HM0.out)).trans HM0.out)
 have HB1 := am (below_then HB0.out HB0.out.size hb)
 have HG1 := am (HG0.out.of_below hb)
 clear hr hb hrd
 go_wp2_with fail
 refine (m_read A c w1 HRD.out HCD.out HG1.out).mono ?_
 rintro e w2 ⟨s, cs, eb, ce, rfl, hM, hs, he, hb⟩
 have HMP := am hM
 have HSM := am (show s ≠ w.heap.size by have := blk_lt HM1.out; omega)
 have HEM := am (show eb ≠ w.heap.size by have := blk_lt HM1.out; omega)
 have HM2 := am ((hb.block _ (blk_lt HM1.out)).trans HM1.out)
 have HB2 := am (below_then HB1.out HB1.out.size hb)
 have hm3 := setRow_heap w2 w.heap.size _ (MCells 0 0 (.slice (some ⟨s, 0, none⟩) 1 cs) 1 (.slice (some ⟨eb, 0, none⟩) 1 ce)) _ _ HM2.out
 have hb3 := m_belowRow HB2.out w.heap.size (Nat.le_refl _) (MCells 0 0 (.slice (some ⟨s, 0, none⟩) 1 cs) 1 (.slice (some ⟨eb, 0, none⟩) 1 ce))
 have HM3 := am hm3
 have HB3 := am hb3
 have HMP3 := am (show ManP (w2.setRow w.heap.size (MCells 0 0 (.slice (some ⟨s, 0, none⟩) 1 cs) 1 (.slice (some ⟨eb, 0, none⟩) 1 ce))) s cs eb ce from ⟨hM.1, hM.2.1, C_move_col hM.2.2.1 (setRow_other _ _ _ _ HSM.out), hM.2.2.2.move (setRow_other _ _ _ _ HEM.out)⟩)
 clear hM hs he hb hm3 hb3
 go_wp2_with (refine wpList_store_row rfl 27 (.tmp 2) (.tmp 27) rfl w.heap.size (MCells 0 0 (.slice (some ⟨s, 0, none⟩) 1 cs) 1 (.slice (some ⟨eb, 0, none⟩) 1 ce)) rfl rfl 27 _ HM2.out (by kernel_rfl) rfl (by kernel_rfl) ?_)
 generalize w2.setRow w.heap.size (MCells 0 0 (.slice (some ⟨s, 0, none⟩) 1 cs) 1 (.slice (some ⟨eb, 0, none⟩) 1 ce)) = w3 at *
 refine (is_nil 4 w3).mono ?_
 rintro e w' ⟨rfl, rfl⟩
 go_wp2_with (first | (refine wpList_load_row rfl 27 (.tmp 2) rfl w.heap.size rfl 27 (MCells 0 0 (.slice (some ⟨s, 0, none⟩) 1 cs) 1 (.slice (some ⟨eb, 0, none⟩) 1 ce)) (0, 0) _ HM3.out Tryz.underlying27 rfl (by kernel_rfl) ?_) | (refine wpList_store_row rfl 27 (.tmp 2) (.tmp 33) rfl w.heap.size (MCells 0 0 (.slice (some ⟨s, 0, none⟩) 1 cs) 1 (.slice (some ⟨eb, 0, none⟩) 1 ce)) rfl rfl 27 _ HM3.out (by kernel_rfl) rfl (by kernel_rfl) ?_))
 rw [setRow_self w3 w.heap.size _ _ _ HM3.out]
 refine bodyPost_ret (v := .tuple #[ManV s cs eb ce, .int .i64 0]) (results_cr_tmp (p := 2) (u := 3) rfl _ _ w.heap.size 27 (MCells 0 0 (.slice (some ⟨s, 0, none⟩) 1 cs) 1 (.slice (some ⟨eb, 0, none⟩) 1 ce)) (0, 0) _ rfl HM3.out Tryz.underlying27 rfl (by kernel_rfl)) rfl ?_
 exact ⟨s, cs, eb, ce, rfl, HMP3.out, HB3.out⟩
end
section
attribute [local go_sem] max2_int min2_int max_two min_two max_three min_three max_four min_four
theorem eqA123 (d : Nat) (w : World) (x0 y0 : Int) (x1 y1 : Bool) (x2 y2 : Int) :
  (Op.equalIn (d + 2) 123 (.agg #[.int .i64 x0, .bool x1, .int .i64 x2]) (.agg #[.int .i64 y0, .bool y1, .int .i64 y2])).run Tryz.prog w = .ok (x0 == y0 && (x1 == y1 && (x2 == y2))) w := by
 refine eqA_of Tryz.underlying123 (by kernel_rfl) ?_
 refine eqf_cons (by rfl) (by go_simp; rfl) (by go_simp; rfl) (by go_simp) ?_
 refine eqf_cons (by rfl) (by go_simp; rfl) (by go_simp; rfl) (by go_simp) ?_
 exact eqf_last (by rfl) (by go_simp; rfl) (by go_simp; rfl) (by go_simp)
end
section
attribute [local go_sem] max2_int min2_int max_two min_two max_three min_three max_four min_four
attribute [local go_sem high] eqA123
def estreatref15_SameSchema.l0 : Nat → List (S123) → List (S123) → Int → Option (Bool)
 | 0, _, _, _ => none
 | k + 1, x0, x1, x5 => if x5 < (x0.length : Int) then (if 0 ≤ x5 then (if x5 < (x1.length : Int) then (if (!(((rd_T123 x0 x5).f0) == ((rd_T123 x1 x5).f0)) || (!(((rd_T123 x0 x5).f1) == ((rd_T123 x1 x5).f1)) || (!(((rd_T123 x0 x5).f2) == ((rd_T123 x1 x5).f2))))) = true then (some false) else (estreatref15_SameSchema.l0 k x0 x1 (wrap64 (x5 + 1)))) else (none)) else (none)) else (some true)
def estreatref15_SameSchema.f (k : Nat) (l0 : List (S123)) (l1 : List (S123)) : Option (Bool) := if (l0.length : Int) = (l1.length : Int) then (estreatref15_SameSchema.l0 k l0 l1 0) else (some false)
set_option maxHeartbeats 8000000 in
set_option maxRecDepth 100000 in
theorem estreatref15_SameSchema.calls (k : Nat) (A0 : Option Addr) (c0 : Nat) (l0 : List (S123)) (A1 : Option Addr) (c1 : Nat) (l1 : List (S123)) (r : Bool) (w : World) (hr0 : Kd.C k123 w A0 l0.length l0) (hc0 : l0.length ≤ c0) (hr1 : Kd.C k123 w A1 l1.length l1) (hc1 : l1.length ≤ c1) (h : estreatref15_SameSchema.f k l0 l1 = some r) :
  Calls Tryz.prog 64 #[.slice A0 l0.length c0, .slice A1 l1.length c1] w fun e w' => e = .returned (.bool r) ∧ Drawn0 w w' := by
 have hu123 := Tryz.underlying123
 have HR0 := am hr0
 have HC0 := am hc0
 clear hr0 hc0
 have HR1 := am hr1
 have HC1 := am hc1
 clear hr1 hc1
 have H : (if (l0.length : Int) = (l1.length : Int) then (estreatref15_SameSchema.l0 k l0 l1 0) else (some false)) = some r := h
 clear h
 by_cases c3 : (l0.length : Int) = (l1.length : Int)
 ·rw [if_pos c3] at H
  have c3b0 : ((l0.length : Int) == (l1.length : Int)) = true := beq_iff_eq.mpr c3
  have c3b1 : ((l0.length : Int) != (l1.length : Int)) = false := bne_eq_false_iff_eq.mpr c3
  have c3b2 : (l0.length == l1.length) = true := by first | simpa using c3 | (simp at c3 ⊢; omega)
  clear c3
  have H' := am H
  clear H
  go_enter Tryz.func64, Tryz.ntmps64
  go_wp2
  repeat (go_quiet (fail); try go_wp2)
  go_loopg [5] k (fun kq v5 w' => ∃ (x5_1 : Int), v5 = .int .i64 x5_1 ∧ Aside0 (estreatref15_SameSchema.l0 kq l0 l1 x5_1 = some r) ∧ Aside0 (kq ≤ k) ∧ Drawn0 w w')
  case atStart => exact ⟨(0), (by first | rfl | (simp; done) | (simp [*]; done)), H', ⟨Nat.le_refl _⟩, by repeat (first | exact Drawn0.refl _ | apply Drawn0.step)⟩
  case round =>
   clear H'
   try clear c1
   try clear p2
   try clear c3
   try clear c3b0
   try clear c3b1
   try clear c3b2
   obtain ⟨x5_1, rfl, HA, HK1, ⟨m1, rfl⟩⟩ := hrel
   cases gk with
   | zero => exact absurd HA.out (by simp [estreatref15_SameSchema.l0])
   | succ k1 =>
    have H := HA.out
    clear HA
    simp only [estreatref15_SameSchema.l0] at H
    by_cases c4 : x5_1 < (l0.length : Int)
    ·rw [if_pos c4] at H
     have c4b0 : decide (x5_1 < (l0.length : Int)) = true := decide_eq_true c4
     clear c4
     by_cases c5 : 0 ≤ x5_1
     ·rw [if_pos c5] at H
      have c5b0 : decide (0 ≤ x5_1) = true := decide_eq_true c5
      clear c5
      by_cases c6 : x5_1 < (l1.length : Int)
      ·rw [if_pos c6] at H
       have c6b0 : decide (x5_1 < (l1.length : Int)) = true := decide_eq_true c6
       clear c6
       by_cases c7 : (!(((rd_T123 l0 x5_1).f0) == ((rd_T123 l1 x5_1).f0)) || (!(((rd_T123 l0 x5_1).f1) == ((rd_T123 l1 x5_1).f1)) || (!(((rd_T123 l0 x5_1).f2) == ((rd_T123 l1 x5_1).f2))))) = true
       ·rw [if_pos c7] at H
        have c7b0 : (!(((rd_T123 l0 x5_1).f0) == ((rd_T123 l1 x5_1).f0)) || (!(((rd_T123 l0 x5_1).f1) == ((rd_T123 l1 x5_1).f1)) || (!(((rd_T123 l0 x5_1).f2) == ((rd_T123 l1 x5_1).f2))))) = true := c7
        clear c7
        obtain rfl := Option.some.inj H
        have p165 : 0 ≤ (x5_1 : Int) := of_decide_eq_true (by first | (with_reducible assumption) | assumption)
        have q165 : x5_1 < (l0.length : Int) := of_decide_eq_true (by first | (with_reducible assumption) | assumption)
        obtain ⟨ad165, e165, hx165_0, hx165_1, hx165_2⟩ := at_T123 HR0.out x5_1 p165 q165
        cases e165
        replace p165 := eq_true p165
        replace q165 := eq_true q165
        have p166 : 0 ≤ (x5_1 : Int) := of_decide_eq_true (by first | (with_reducible assumption) | assumption)
        have q166 : x5_1 < (l1.length : Int) := of_decide_eq_true (by first | (with_reducible assumption) | assumption)
        obtain ⟨ad166, e166, hx166_0, hx166_1, hx166_2⟩ := at_T123 HR1.out x5_1 p166 q166
        cases e166
        replace p166 := eq_true p166
        replace q166 := eq_true q166
        go_wp2
        repeat (go_quiet (fail); try go_wp2)
        go_ret
        exact ⟨by first | rfl | (simp; done) | (simp [*]; done), by repeat (first | exact Drawn0.refl _ | apply Drawn0.step)⟩
       ·rw [if_neg c7] at H
        have c7b0 : (!(((rd_T123 l0 x5_1).f0) == ((rd_T123 l1 x5_1).f0)) || (!(((rd_T123 l0 x5_1).f1) == ((rd_T123 l1 x5_1).f1)) || (!(((rd_T123 l0 x5_1).f2) == ((rd_T123 l1 x5_1).f2))))) = false := by simpa using c7
        clear c7
        have H' := am H
        clear H
        have p165 : 0 ≤ (x5_1 : Int) := of_decide_eq_true (by first | (with_reducible assumption) | assumption)
        have q165 : x5_1 < (l0.length : Int) := of_decide_eq_true (by first | (with_reducible assumption) | assumption)
        obtain ⟨ad165, e165, hx165_0, hx165_1, hx165_2⟩ := at_T123 HR0.out x5_1 p165 q165
        cases e165
        replace p165 := eq_true p165
        replace q165 := eq_true q165
        have p166 : 0 ≤ (x5_1 : Int) := of_decide_eq_true (by first | (with_reducible assumption) | assumption)
        have q166 : x5_1 < (l1.length : Int) := of_decide_eq_true (by first | (with_reducible assumption) | assumption)
        obtain ⟨ad166, e166, hx166_0, hx166_1, hx166_2⟩ := at_T123 HR1.out x5_1 p166 q166
        cases e166
        replace p166 := eq_true p166
        replace q166 := eq_true q166
        go_wp2
        repeat (go_quiet (fail); try go_wp2)
        go_roundg k1
        case measure => have := HK1.out; omega
        case rel => exact ⟨(wrap64 (x5_1 + 1)), (by first | rfl | (simp; done) | (simp [*]; done)), H', ⟨by have := HK1.out; omega⟩, by repeat (first | exact Drawn0.refl _ | apply Drawn0.step)⟩
      ·rw [if_neg c6] at H
       exact absurd H (by simp)
     ·rw [if_neg c5] at H
      exact absurd H (by simp)
    ·rw [if_neg c4] at H
     have c4b0 : decide (x5_1 < (l0.length : Int)) = false := decide_eq_false c4
     clear c4
     obtain rfl := Option.some.inj H
     go_wp2
     repeat (go_quiet (fail); try go_wp2)
     go_ret
     exact ⟨by first | rfl | (simp; done) | (simp [*]; done), by repeat (first | exact Drawn0.refl _ | apply Drawn0.step)⟩
 ·rw [if_neg c3] at H
  have c3b0 : ((l0.length : Int) == (l1.length : Int)) = false := beq_eq_false_iff_ne.mpr c3
  have c3b1 : ((l0.length : Int) != (l1.length : Int)) = true := bne_iff_ne.mpr c3
  have c3b2 : (l0.length == l1.length) = false := by first | simpa using c3 | (simp at c3 ⊢; omega)
  obtain rfl := Option.some.inj H
  go_enter Tryz.func64, Tryz.ntmps64
  go_wp2
  repeat (go_quiet (fail); try go_wp2)
  go_ret
  exact ⟨by first | rfl | (simp; done) | (simp [*]; done), by repeat (first | exact Drawn0.refl _ | apply Drawn0.step)⟩
end
section
attribute [local go_sem] max2_int min2_int max_two min_two max_three min_three max_four min_four
theorem eqA68 (d : Nat) (w : World) (x0 y0 : Int) (x1 y1 : Int) (x2 y2 : ByteArray) :
  (Op.equalIn (d + 2) 68 (.agg #[.int .i64 x0, .int .i64 x1, .string x2]) (.agg #[.int .i64 y0, .int .i64 y1, .string y2])).run Tryz.prog w = .ok (x0 == y0 && (x1 == y1 && (x2.toList == y2.toList))) w := by
 refine eqA_of Tryz.underlying68 (by kernel_rfl) ?_
 refine eqf_cons (by rfl) (by go_simp; rfl) (by go_simp; rfl) (by go_simp) ?_
 refine eqf_cons (by rfl) (by go_simp; rfl) (by go_simp; rfl) (by go_simp) ?_
 exact eqf_last (by rfl) (by go_simp; rfl) (by go_simp; rfl) (by go_simp)
end
section
attribute [local go_sem] max2_int min2_int max_two min_two max_three min_three max_four min_four
attribute [local go_sem high] eqA68
def estreatref14_Same.l0 : Nat → List (S68) → List (S68) → Int → Option (Bool)
 | 0, _, _, _ => none
 | k + 1, x0, x1, x5 => if x5 < (x0.length : Int) then (if 0 ≤ x5 then (if x5 < (x1.length : Int) then (if (!(((rd_T68 x0 x5).f0) == ((rd_T68 x1 x5).f0)) || (!(((rd_T68 x0 x5).f1) == ((rd_T68 x1 x5).f1)) || (!((((rd_T68 x0 x5).f2).toList) == (((rd_T68 x1 x5).f2).toList))))) = true then (some false) else (estreatref14_Same.l0 k x0 x1 (wrap64 (x5 + 1)))) else (none)) else (none)) else (some true)
def estreatref14_Same.f (k : Nat) (l0 : List (S68)) (l1 : List (S68)) : Option (Bool) := if (l0.length : Int) = (l1.length : Int) then (estreatref14_Same.l0 k l0 l1 0) else (some false)
set_option maxHeartbeats 8000000 in
set_option maxRecDepth 100000 in
theorem estreatref14_Same.calls (k : Nat) (A0 : Option Addr) (c0 : Nat) (l0 : List (S68)) (A1 : Option Addr) (c1 : Nat) (l1 : List (S68)) (r : Bool) (w : World) (hr0 : Kd.C k68 w A0 l0.length l0) (hc0 : l0.length ≤ c0) (hr1 : Kd.C k68 w A1 l1.length l1) (hc1 : l1.length ≤ c1) (h : estreatref14_Same.f k l0 l1 = some r) :
  Calls Tryz.prog 108 #[.slice A0 l0.length c0, .slice A1 l1.length c1] w fun e w' => e = .returned (.bool r) ∧ Drawn0 w w' := by
 have hu68 := Tryz.underlying68
 have HR0 := am hr0
 have HC0 := am hc0
 clear hr0 hc0
 have HR1 := am hr1
 have HC1 := am hc1
 clear hr1 hc1
 have H : (if (l0.length : Int) = (l1.length : Int) then (estreatref14_Same.l0 k l0 l1 0) else (some false)) = some r := h
 clear h
 by_cases c3 : (l0.length : Int) = (l1.length : Int)
 ·rw [if_pos c3] at H
  have c3b0 : ((l0.length : Int) == (l1.length : Int)) = true := beq_iff_eq.mpr c3
  have c3b1 : ((l0.length : Int) != (l1.length : Int)) = false := bne_eq_false_iff_eq.mpr c3
  have c3b2 : (l0.length == l1.length) = true := by first | simpa using c3 | (simp at c3 ⊢; omega)
  clear c3
  have H' := am H
  clear H
  go_enter Tryz.func108, Tryz.ntmps108
  go_wp2
  repeat (go_quiet (fail); try go_wp2)
  go_loopg [5] k (fun kq v5 w' => ∃ (x5_1 : Int), v5 = .int .i64 x5_1 ∧ Aside0 (estreatref14_Same.l0 kq l0 l1 x5_1 = some r) ∧ Aside0 (kq ≤ k) ∧ Drawn0 w w')
  case atStart => exact ⟨(0), (by first | rfl | (simp; done) | (simp [*]; done)), H', ⟨Nat.le_refl _⟩, by repeat (first | exact Drawn0.refl _ | apply Drawn0.step)⟩
  case round =>
   clear H'
   try clear c1
   try clear p2
   try clear c3
   try clear c3b0
   try clear c3b1
   try clear c3b2
   obtain ⟨x5_1, rfl, HA, HK1, ⟨m1, rfl⟩⟩ := hrel
   cases gk with
   | zero => exact absurd HA.out (by simp [estreatref14_Same.l0])
   | succ k1 =>
    have H := HA.out
    clear HA
    simp only [estreatref14_Same.l0] at H
    by_cases c4 : x5_1 < (l0.length : Int)
    ·rw [if_pos c4] at H
     have c4b0 : decide (x5_1 < (l0.length : Int)) = true := decide_eq_true c4
     clear c4
     by_cases c5 : 0 ≤ x5_1
     ·rw [if_pos c5] at H
      have c5b0 : decide (0 ≤ x5_1) = true := decide_eq_true c5
      clear c5
      by_cases c6 : x5_1 < (l1.length : Int)
      ·rw [if_pos c6] at H
       have c6b0 : decide (x5_1 < (l1.length : Int)) = true := decide_eq_true c6
       clear c6
       by_cases c7 : (!(((rd_T68 l0 x5_1).f0) == ((rd_T68 l1 x5_1).f0)) || (!(((rd_T68 l0 x5_1).f1) == ((rd_T68 l1 x5_1).f1)) || (!((((rd_T68 l0 x5_1).f2).toList) == (((rd_T68 l1 x5_1).f2).toList))))) = true
       ·rw [if_pos c7] at H
        have c7b0 : (!(((rd_T68 l0 x5_1).f0) == ((rd_T68 l1 x5_1).f0)) || (!(((rd_T68 l0 x5_1).f1) == ((rd_T68 l1 x5_1).f1)) || (!((((rd_T68 l0 x5_1).f2).toList) == (((rd_T68 l1 x5_1).f2).toList))))) = true := c7
        clear c7
        obtain rfl := Option.some.inj H
        have p167 : 0 ≤ (x5_1 : Int) := of_decide_eq_true (by first | (with_reducible assumption) | assumption)
        have q167 : x5_1 < (l0.length : Int) := of_decide_eq_true (by first | (with_reducible assumption) | assumption)
        obtain ⟨ad167, e167, hx167_0, hx167_1, hx167_2⟩ := at_T68 HR0.out x5_1 p167 q167
        cases e167
        replace p167 := eq_true p167
        replace q167 := eq_true q167
        have p168 : 0 ≤ (x5_1 : Int) := of_decide_eq_true (by first | (with_reducible assumption) | assumption)
        have q168 : x5_1 < (l1.length : Int) := of_decide_eq_true (by first | (with_reducible assumption) | assumption)
        obtain ⟨ad168, e168, hx168_0, hx168_1, hx168_2⟩ := at_T68 HR1.out x5_1 p168 q168
        cases e168
        replace p168 := eq_true p168
        replace q168 := eq_true q168
        go_wp2
        repeat (go_quiet (fail); try go_wp2)
        go_ret
        exact ⟨by first | rfl | (simp; done) | (simp [*]; done), by repeat (first | exact Drawn0.refl _ | apply Drawn0.step)⟩
       ·rw [if_neg c7] at H
        have c7b0 : (!(((rd_T68 l0 x5_1).f0) == ((rd_T68 l1 x5_1).f0)) || (!(((rd_T68 l0 x5_1).f1) == ((rd_T68 l1 x5_1).f1)) || (!((((rd_T68 l0 x5_1).f2).toList) == (((rd_T68 l1 x5_1).f2).toList))))) = false := by simpa using c7
        clear c7
        have H' := am H
        clear H
        have p167 : 0 ≤ (x5_1 : Int) := of_decide_eq_true (by first | (with_reducible assumption) | assumption)
        have q167 : x5_1 < (l0.length : Int) := of_decide_eq_true (by first | (with_reducible assumption) | assumption)
        obtain ⟨ad167, e167, hx167_0, hx167_1, hx167_2⟩ := at_T68 HR0.out x5_1 p167 q167
        cases e167
        replace p167 := eq_true p167
        replace q167 := eq_true q167
        have p168 : 0 ≤ (x5_1 : Int) := of_decide_eq_true (by first | (with_reducible assumption) | assumption)
        have q168 : x5_1 < (l1.length : Int) := of_decide_eq_true (by first | (with_reducible assumption) | assumption)
        obtain ⟨ad168, e168, hx168_0, hx168_1, hx168_2⟩ := at_T68 HR1.out x5_1 p168 q168
        cases e168
        replace p168 := eq_true p168
        replace q168 := eq_true q168
        go_wp2
        repeat (go_quiet (fail); try go_wp2)
        go_roundg k1
        case measure => have := HK1.out; omega
        case rel => exact ⟨(wrap64 (x5_1 + 1)), (by first | rfl | (simp; done) | (simp [*]; done)), H', ⟨by have := HK1.out; omega⟩, by repeat (first | exact Drawn0.refl _ | apply Drawn0.step)⟩
      ·rw [if_neg c6] at H
       exact absurd H (by simp)
     ·rw [if_neg c5] at H
      exact absurd H (by simp)
    ·rw [if_neg c4] at H
     have c4b0 : decide (x5_1 < (l0.length : Int)) = false := decide_eq_false c4
     clear c4
     obtain rfl := Option.some.inj H
     go_wp2
     repeat (go_quiet (fail); try go_wp2)
     go_ret
     exact ⟨by first | rfl | (simp; done) | (simp [*]; done), by repeat (first | exact Drawn0.refl _ | apply Drawn0.step)⟩
 ·rw [if_neg c3] at H
  have c3b0 : ((l0.length : Int) == (l1.length : Int)) = false := beq_eq_false_iff_ne.mpr c3
  have c3b1 : ((l0.length : Int) != (l1.length : Int)) = true := bne_iff_ne.mpr c3
  have c3b2 : (l0.length == l1.length) = false := by first | simpa using c3 | (simp at c3 ⊢; omega)
  obtain rfl := Option.some.inj H
  go_enter Tryz.func108, Tryz.ntmps108
  go_wp2
  repeat (go_quiet (fail); try go_wp2)
  go_ret
  exact ⟨by first | rfl | (simp; done) | (simp [*]; done), by repeat (first | exact Drawn0.refl _ | apply Drawn0.step)⟩
end
end Go.Proofs.YtjmhiklmlgbifaaGreatDoor.PMan

/- Texts, put into one. -/
import Derived.Test.YtjmhiklmlgbifaaGreatDoorPT35
import Derived.Test.YtjmhiklmlgbifaaGreatDoorPT36
import Derived.Test.YtjmhiklmlgbifaaGreatDoorPT38
import Derived.Test.YtjmhiklmlgbifaaGreatDoorPTW
set_option linter.unusedVariables false
set_option linter.unusedSimpArgs false
open Go Go.RowKit Go.Proofs.YtjmhiklmlgbifaaGreatDoorW.PrintWords Go.Proofs.YtjmhiklmlgbifaaGreatDoorW.PrintLast Go.Proofs.YtjmhiklmlgbifaaGreatDoorW.PrintMore
namespace Go.Proofs.YtjmhiklmlgbifaaGreatDoor.PMan
section
attribute [local go_sem] max2_int min2_int max_two min_two
theorem HC_set1 (x y y' : Int) (f : Nat → Int) (A : Option Addr) (n c : Nat) : (HC x y f A n c).setIfInBounds 1 (.int .i64 y') = HC x y' f A n c := by kernel_rfl
theorem HC_1 (x y : Int) (f : Nat → Int) (A : Option Addr) (n c : Nat) : (HC x y f A n c)[1]? = some (.int .i64 y) := by kernel_rfl
theorem zoneQ_1 {s0 : List Int} {q qa qb qc qd : St} {x : Int} {v1 v2 : S68} (a : numQ 65536 s0 q = (x, qa)) (b : fixQ s0 qa = (1, qb)) (c : valQ s0 qb = (v1, qc)) (d : valQ s0 qc = (v2, qd)) : zoneQ s0 q = (⟨x, true, v1, v2⟩, qd) := by
 unfold zoneQ
 simp only [a, b, c, d, if_true]
theorem zoneQ_0 {s0 : List Int} {q qa qb : St} {x : Int} (a : numQ 65536 s0 q = (x, qa)) (b : fixQ s0 qa = (0, qb)) : zoneQ s0 q = (⟨x, false, z68, z68⟩, qb) := by
 unfold zoneQ
 simp [a, b]
theorem zoneQ_n {s0 : List Int} {q qa qb : St} {x k : Int} (a : numQ 65536 s0 q = (x, qa)) (b : fixQ s0 qa = (k, qb)) (h0 : k ≠ 0) (h1 : k ≠ 1) : zoneQ s0 q = (⟨x, false, z68, z68⟩, failQ 4 qb) := by
 unfold zoneQ
 simp only [a, b]
 rw [if_neg h1, if_neg h0]
set_option maxHeartbeats 32000000 in
set_option maxRecDepth 100000 in
theorem rHead (A1 : Option Addr) (c1 : Nat) (s : List S123) (w0 w : World) (g : Nat) (s0 : List Int) (q : St) (h : Rr w0 w g s0 q) (hs : ∀ W, KeepBut w W g none → Kd.C k123 W A1 s.length s) (hc1 : s.length ≤ c1) (hsl : s.length ≤ 1000000) :
  Calls Tryz.prog 59 #[.pointer (some ⟨g, 0, none⟩), .slice A1 s.length c1] w fun e w' => ∃ A c, e = .returned (.agg (hdCells (headQ s0 s q).1 A c).toArray) ∧ (headQ s0 s q).1.cols.length ≤ c ∧ Kd.R kCH 72 w' w.heap.size (fun _ => True) (.slice A (headQ s0 s q).1.cols.length c) (headQ s0 s q).1.cols ∧ Rr w0 w' g s0 (headQ s0 s q).2 ∧ KeepBut w w' g none := by
 have HR := am h
 have HS := am hs
 have HC1 := am hc1
 have hlt := h.lt
 obtain ⟨r, hr⟩ : ∃ r, r = headQ s0 s q := ⟨_, rfl⟩
 rw [← hr]
 unfold headQ headE headR at hr
 have hF := fun W (H : Rr w0 W g s0 q) => rNumber103 w0 W g s0 q H
 obtain ⟨x1, q1, hkq⟩ : ∃ k q1, numQ 65536 s0 q = (k, q1) := ⟨_, _, rfl⟩
 have hi1 := numQ_in (lim := 65536) h.inn
 rw [hkq] at hr hi1
 simp only [hkq] at hF
 dsimp only at hr hi1
 have HF1 := am hF
 clear hkq hF h
 have hF := fun W (H : Rr w0 W g s0 q1) => rNumber103 w0 W g s0 q1 H
 obtain ⟨x2, q2, hkq⟩ : ∃ k q2, numQ 65536 s0 q1 = (k, q2) := ⟨_, _, rfl⟩
 have hi2 := numQ_in (lim := 65536) hi1
 rw [hkq] at hr hi2
 simp only [hkq] at hF
 dsimp only at hr hi2
 have HF2 := am hF
 clear hkq hF
 have hl3 := hashQ_len hi2
 have hF := fun W (H : Rr w0 W g s0 q2) => rHash104 w0 W g s0 q2 H
 obtain ⟨d3, q3, hkq⟩ : ∃ k q3, hashQ s0 q2 = (k, q3) := ⟨_, _, rfl⟩
 rw [hkq] at hr hl3
 simp only [hkq] at hF
 dsimp only at hr hl3
 obtain ⟨fd, rfl⟩ : ∃ fd, d3 = HL fd := ⟨_, range_fn d3 hl3⟩
 have HF3 := am hF
 clear hkq hF hl3 hi1 hi2
 have HRES := am hr
 clear hr
 go_enter Tryz.func59, Tryz.ntmps59
 go_wp2_with fail
 have hx0 : (w.alloc (.cells #[.int .i64 0, .int .i64 0, .int .u8 0, .int .u8 0, .int .u8 0, .int .u8 0, .int .u8 0, .int .u8 0, .int .u8 0, .int .u8 0, .int .u8 0, .int .u8 0, .int .u8 0, .int .u8 0, .int .u8 0, .int .u8 0, .int .u8 0, .int .u8 0, .int .u8 0, .int .u8 0, .int .u8 0, .int .u8 0, .int .u8 0, .int .u8 0, .int .u8 0, .int .u8 0, .int .u8 0, .int .u8 0, .int .u8 0, .int .u8 0, .int .u8 0, .int .u8 0, .int .u8 0, .int .u8 0, .slice none 0 0] 64)).heap[w.heap.size]? = some (.cells (HC 0 0 (fun _ => 0) none 0 0) 64 (0, 0)) := (heap_alloc_new w _).trans (by rw [HC_zero])
 have hb0 : Below w.heap.size w (w.alloc (.cells #[.int .i64 0, .int .i64 0, .int .u8 0, .int .u8 0, .int .u8 0, .int .u8 0, .int .u8 0, .int .u8 0, .int .u8 0, .int .u8 0, .int .u8 0, .int .u8 0, .int .u8 0, .int .u8 0, .int .u8 0, .int .u8 0, .int .u8 0, .int .u8 0, .int .u8 0, .int .u8 0, .int .u8 0, .int .u8 0, .int .u8 0, .int .u8 0, .int .u8 0, .int .u8 0, .int .u8 0, .int .u8 0, .int .u8 0, .int .u8 0, .int .u8 0, .int .u8 0, .int .u8 0, .int .u8 0, .slice none 0 0] 64)) := below_alloc (Below.refl _ _) _
 generalize w.alloc (.cells #[.int .i64 0, .int .i64 0, .int .u8 0, .int .u8 0, .int .u8 0, .int .u8 0, .int .u8 0, .int .u8 0, .int .u8 0, .int .u8 0, .int .u8 0, .int .u8 0, .int .u8 0, .int .u8 0, .int .u8 0, .int .u8 0, .int .u8 0, .int .u8 0, .int .u8 0, .int .u8 0, .int .u8 0, .int .u8 0, .int .u8 0, .int .u8 0, .int .u8 0, .int .u8 0, .int .u8 0, .int .u8 0, .int .u8 0, .int .u8 0, .int .u8 0, .int .u8 0, .int .u8 0, .int .u8 0, .slice none 0 0] 64) = W0 at *
 refine (HF1.out W0 (HR.out.below hb0)).mono ?_
 rintro e w1 ⟨rfl, hr1, hk1⟩
 have HR1 := am hr1
 have HK1 := am (keep_then (KeepBut.of_below hb0 g none) hk1)
 have HX1 := am (KeepBut.at_ hk1 hx0 (by omega))
 have HRG := am (show w.heap.size ≠ g by omega)
 clear hb0 hx0 hr1 hk1 HF1 HR
 go_wp2_with (refine wpList_store_row rfl 64 (.tmp 5) (.tmp 11) rfl w1.heap.size (HC x1 0 (fun _ => 0) none 0 0) rfl rfl 64 _ (heap_alloc_new w1 _) (by rw [HC_size]; kernel_rfl) (by rw [HC_size]; rfl) (HC_all _ _ _ _ _ _) ?_; rw [World.setRow_alloc_new])
 have hb3 : Below w1.heap.size w1 (w1.alloc (.cells (HC x1 0 (fun _ => 0) none 0 0) 64)) := below_alloc (Below.refl _ _) _
 have HR2 := am (HR1.out.below hb3)
 have HK2 := am (KeepBut.below_ HK1.out hb3)
 have HX2 := am ((hb3.block _ (blk_lt HX1.out)).trans HX1.out)
 have HY2 := am (heap_alloc_new w1 (.cells (HC x1 0 (fun _ => 0) none 0 0) 64))
 have HBW := am (show w.heap.size ≤ w1.heap.size from HK1.out.1)
 have HBG := am (show w1.heap.size ≠ g by have := HK1.out.1; omega)
 have HGB := am (show g < w1.heap.size by have := HK1.out.1; omega)
 have HBX := am (show w.heap.size ≠ w1.heap.size by have := blk_lt HX1.out; omega)
 clear hb3 HR1 HK1 HX1
 generalize w1.alloc (.cells (HC x1 0 (fun _ => 0) none 0 0) 64) = w2 at *
 generalize w1.heap.size = b5 at *
 refine (HF2.out w2 HR2.out).mono ?_
 rintro e w3 ⟨rfl, hr3, hk3⟩
 have HR3a := am hr3
 have HK3a := am (keep_then HK2.out hk3)
 have HX3a := am (KeepBut.at_ hk3 HX2.out HRG.out)
 have HY3a := am (KeepBut.at_ hk3 HY2.out HBG.out)
 clear hr3 hk3 HR2 HK2 HX2 HY2
 have c1 : w3.cell? ⟨b5, 1, none⟩ = some (.int .i64 0) := (blk_cell HY3a.out 1).trans (HC_1 _ _ _ _ _ _)
 have f1 := blk_frozen HY3a.out 1
 have HR3 := am (HR3a.out.setCell HGB.out 1 (.int .i64 x2))
 have HK3 := am (KeepBut.cell HK3a.out HBW.out 1 (.int .i64 x2))
 have HX3 := am ((Below.heap_setCell w3 ⟨b5, 1, none⟩ (.int .i64 x2) w.heap.size HBX.out).trans HX3a.out)
 have HY3 : Aside0 ((w3.setCell ⟨b5, 1, none⟩ (.int .i64 x2)).heap[b5]? = some (.cells (HC x1 x2 (fun _ => 0) none 0 0) 64 (0, 0))) := am (by rw [setCell_eq_setRow _ _ _ _ _ _ _ HY3a.out]; exact (setRow_heap _ _ _ _ _ _ HY3a.out).trans (by rw [HC_set1]))
 go_wp2_with fail
 generalize w3.setCell ⟨b5, 1, none⟩ (.int .i64 x2) = W3 at *
 refine (HF3.out W3 HR3.out).mono ?_
 rintro e w4 ⟨rfl, hr4, hk4⟩
 have HR4 := am hr4
 have HK4 := am (keep_then HK3.out hk4)
 have HX4 := am (KeepBut.at_ hk4 HX3.out HRG.out)
 have HY4 := am (KeepBut.at_ hk4 HY3.out HBG.out)
 clear hr4 hk4 HF3 HR3 HK3 HX3 HY3 c1 f1 HR3a HK3a HX3a HY3a
 have HR5 := am (HR4.out.setRow HGB.out (HC x1 x2 fd none 0 0))
 have HK5 := am (KeepBut.row HK4.out HBW.out (HC x1 x2 fd none 0 0))
 have HX5 := am ((setRow_other w4 b5 w.heap.size (HC x1 x2 fd none 0 0) HBX.out).trans HX4.out)
 have HY5 := am (setRow_heap w4 b5 _ (HC x1 x2 fd none 0 0) _ _ HY4.out)
 go_wp2_with (refine wpList_store_seg rfl 61 (.tmp 17) (.tmp 16) rfl b5 2 (hashCells (HL fd)).toArray rfl rfl 64 _ HY4.out (by rw [hc32_size, HC_size]; decide) (by rw [hc32_size]; kernel_rfl) (hc32_all fd) (HC x1 x2 fd none 0 0) (HC_hash _ _ _ _ _ _) ?_)
 have HSL := am hsl
 generalize w4.setRow b5 (HC x1 x2 fd none 0 0) = W5 at *
 clear HR4 HK4 HX4 HY4 hs hc1 hsl
 go_loopw [6] (fun v6 w' => ∃ (i : Nat) (l : List CH) (q' : St) (A : Option Addr) (c : Nat), i ≤ s.length ∧ v6 = .int .i64 i ∧ Aside0 (Rr w0 w' g s0 q') ∧ Aside0 (KeepBut w w' g none) ∧ Aside0 (w'.heap[w.heap.size]? = some (.cells (HC 0 0 (fun _ => 0) none 0 0) 64 (0, 0))) ∧ Aside0 (w'.heap[b5]? = some (.cells (HC x1 x2 fd A l.length c) 64 (0, 0))) ∧ Aside0 (Kd.R kCH 72 w' w.heap.size (fun _ => True) (.slice A l.length c) l) ∧ Aside0 (l.length ≤ i) ∧ Aside0 (chsQ s0 (s.length - i) l q' = chsQ s0 s.length [] q3)) (fun i _ => s.length - (intOf i).toNat)
 case atStart => exact ⟨0, [], q3, none, 0, Nat.zero_le _, rfl, HR5, HK5, HX5, HY5, ⟨Kd.R_nil _ _ _ _ _⟩, ⟨Nat.le_refl _⟩, ⟨rfl⟩⟩
 case round =>
  obtain ⟨i, l, q', A, c, hi, rfl, HRr, HKr, HXr, HYr, HVr, HLN, HQ⟩ := hrel
  have c2 := HRr.out.err
  by_cases hz : ¬ q'.2.1 = 0
  ·have hb1 : (q'.2.1 == 0) = false := beq_eq_false_iff_ne.2 hz
   have hb2 : (q'.2.1 != 0) = true := by simpa using hz
   have e := HQ.out
   rw [chsQ_err hz] at e
   rw [← e] at HRES
   dsimp only at HRES
   rw [failQ_err hz, if_neg hz] at HRES
   have HRR := HRES
   clear e hz
   by_cases hlt2 : i < s.length
   ·skip
    go_wp2_with (refine wpList_store_row rfl 64 (.tmp 4) (.tmp 76) rfl w.heap.size (HC 0 0 (fun _ => 0) none 0 0) rfl rfl 64 _ HXr.out (by rw [HC_size]; kernel_rfl) rfl (HC_all _ _ _ _ _ _) ?_)
    rw [setRow_self wr w.heap.size _ _ _ HXr.out]
    refine bodyPost_ret (v := .agg (HC 0 0 (fun _ => 0) none 0 0)) (results_cell_row rfl _ _ w.heap.size 64 (HC 0 0 (fun _ => 0) none 0 0) (0, 0) _ rfl HXr.out Tryz.underlying64 rfl (by rw [HC_size]; kernel_rfl)) rfl ?_
    rw [HRR.out, HC_z]
    exact ⟨none, 0, rfl, Nat.le_refl _, Kd.R_nil _ _ _ _ _, HRr.out, HKr.out⟩
   ·skip
    go_wp2_with (refine wpList_store_row rfl 64 (.tmp 4) (.tmp 76) rfl w.heap.size (HC 0 0 (fun _ => 0) none 0 0) rfl rfl 64 _ HXr.out (by rw [HC_size]; kernel_rfl) rfl (HC_all _ _ _ _ _ _) ?_)
    rw [setRow_self wr w.heap.size _ _ _ HXr.out]
    refine bodyPost_ret (v := .agg (HC 0 0 (fun _ => 0) none 0 0)) (results_cell_row rfl _ _ w.heap.size 64 (HC 0 0 (fun _ => 0) none 0 0) (0, 0) _ rfl HXr.out Tryz.underlying64 rfl (by rw [HC_size]; kernel_rfl)) rfl ?_
    rw [HRR.out, HC_z]
    exact ⟨none, 0, rfl, Nat.le_refl _, Kd.R_nil _ _ _ _ _, HRr.out, HKr.out⟩
  have hq0 := Classical.not_not.1 hz
  rw [hq0] at c2
  clear hz
  by_cases hlt2 : i < s.length
  ·have hst : chsQ s0 (s.length - (i + 1)) (l ++ [(chQ s0 q').1]) (chQ s0 q').2 = chsQ s0 s.length [] q3 := by rw [← HQ.out, show s.length - i = (s.length - (i + 1)) + 1 by omega, chsQ, if_pos hq0]
   unfold chQ at hst
   have hzi := zoneQ_in HRr.out.inn
   have hF := fun W (H : Rr w0 W g s0 q') => rNumber103 w0 W g s0 q' H
   obtain ⟨x3, qa, ea⟩ : ∃ k qa, numQ 65536 s0 q' = (k, qa) := ⟨_, _, rfl⟩
   simp only [ea] at hF
   have HFN := am hF
   have hia := numQ_in (lim := 65536) HRr.out.inn
   rw [ea] at hia
   have hF := fun W (H : Rr w0 W g s0 qa) => rFix w0 W g s0 qa H
   have hfr := fixQ_range hia
   obtain ⟨k, qb, eb⟩ : ∃ k qb, fixQ s0 qa = (k, qb) := ⟨_, _, rfl⟩
   simp only [eb] at hF
   rw [eb] at hfr
   dsimp only at hfr
   obtain ⟨k0, k1⟩ := hfr
   have HFF := am hF
   have EA := am ea
   have EB := am eb
   have HST0 := am hst
   have HZI := am hzi
   clear hst hF ea eb hzi HQ hq0 hia
   go_wp2_with fail
   clear c2
   refine (HFN.out wr HRr.out).mono ?_
   rintro e wz ⟨rfl, hrz, hkz⟩
   have HRz := am hrz
   have HKz := am (keep_then HKr.out hkz)
   have HXz := am (KeepBut.at_ hkz HXr.out HRG.out)
   have HYz := am (KeepBut.at_ hkz HYr.out HBG.out)
   have HVz := am (R_past HVr.out hlt hkz)
   clear hrz hkz HFN
   go_wp2_with (refine wpList_store_row rfl 70 (.tmp 7) (.tmp 33) rfl wz.heap.size (zCells ⟨x3, false, z68, z68⟩).toArray rfl rfl 70 _ (heap_alloc_new wz _) (by kernel_rfl) rfl (zCells_all _) ?_; rw [World.setRow_alloc_new])
   have hb5 : Below wz.heap.size wz (wz.alloc (.cells (zCells ⟨x3, false, z68, z68⟩).toArray 70)) := below_alloc (Below.refl _ _) _
   have HRe := am (HRz.out.below hb5)
   have HKe := am (KeepBut.below_ HKz.out hb5)
   have HXe := am ((hb5.block _ (blk_lt HXz.out)).trans HXz.out)
   have HYe := am ((hb5.block _ (blk_lt HYz.out)).trans HYz.out)
   have HZe := am (heap_alloc_new wz (.cells (zCells ⟨x3, false, z68, z68⟩).toArray 70))
   have HVe := am (Kd.R_below HVz.out hb5)
   have HZG := am (show wz.heap.size ≠ g by have := HKz.out.1; omega)
   have HZL := am (show g < wz.heap.size by have := HKz.out.1; omega)
   have HZW := am (show w.heap.size ≤ wz.heap.size from HKz.out.1)
   have HZX := am (show w.heap.size ≠ wz.heap.size by have := blk_lt HXz.out; omega)
   have HZY := am (show b5 ≠ wz.heap.size by have := blk_lt HYz.out; omega)
   clear hb5 HRz HKz HXz HYz HVz
   generalize wz.alloc (.cells (zCells ⟨x3, false, z68, z68⟩).toArray 70) = we at *
   generalize wz.heap.size = zb at *
   refine (HFF.out we HRe.out).mono ?_
   rintro e wf ⟨rfl, hr, hk⟩
   have HRf := am hr
   have HKf := am (keep_then HKe.out hk)
   have HXf := am (KeepBut.at_ hk HXe.out HRG.out)
   have HYf := am (KeepBut.at_ hk HYe.out HBG.out)
   have HZf := am (KeepBut.at_ hk HZe.out HZG.out)
   have HVf := am (R_past HVe.out hlt hk)
   clear hr hk HRe HKe HXe HYe HZe HVe HFF
   by_cases ek : k = 1
   ·subst ek
    have ib := fixQ_in (s0 := s0) (q := qa)
    have p1 : wf.cell? ⟨zb, 1, none⟩ = some (.bool false) := blk_cell HZf.out 1
    have f1 := blk_frozen HZf.out 1
    have hF := fun W (H : Rr w0 W g s0 qb) => rVal w0 W g s0 qb H
    obtain ⟨v1, qc, ec⟩ : ∃ v qc, valQ s0 qb = (v, qc) := ⟨_, _, rfl⟩
    simp only [ec] at hF
    have HFV1 := am hF
    clear hF
    have hF := fun W (H : Rr w0 W g s0 qc) => rVal w0 W g s0 qc H
    obtain ⟨v2, qd, ed⟩ : ∃ v qd, valQ s0 qc = (v, qd) := ⟨_, _, rfl⟩
    simp only [ed] at hF
    have HFV2 := am hF
    have EZ := am (zoneQ_1 EA.out EB.out ec ed)
    clear hF ec ed ib
    have HRg := am (HRf.out.setCell HZL.out 1 (.bool true))
    have HKg := am (KeepBut.cell HKf.out HZW.out 1 (.bool true))
    have HXg := am ((Below.heap_setCell wf ⟨zb, 1, none⟩ (.bool true) w.heap.size HZX.out).trans HXf.out)
    have HYg := am ((Below.heap_setCell wf ⟨zb, 1, none⟩ (.bool true) b5 HZY.out).trans HYf.out)
    have HVg := am (Kd.R_set HVf.out HZf.out (by decide) 1 (.bool true))
    have HZg : Aside0 ((wf.setCell ⟨zb, 1, none⟩ (.bool true)).heap[zb]? = some (.cells (zCells ⟨x3, true, z68, z68⟩).toArray 70 (0, 0))) := am (by rw [setCell_eq_setRow _ _ _ _ _ _ _ HZf.out]; exact setRow_heap _ _ _ _ _ _ HZf.out)
    go_wp2_with fail
    generalize wf.setCell ⟨zb, 1, none⟩ (.bool true) = wg at *
    clear p1 f1 HRf HKf HXf HYf HZf HVf
    refine (HFV1.out wg HRg.out).mono ?_
    rintro e wh ⟨rfl, hr, hk⟩
    have HRh := am hr
    have HKh := am (keep_then HKg.out hk)
    have HXh := am (KeepBut.at_ hk HXg.out HRG.out)
    have HYh := am (KeepBut.at_ hk HYg.out HBG.out)
    have HZh := am (KeepBut.at_ hk HZg.out HZG.out)
    have HVh := am (R_past HVg.out hlt hk)
    clear hr hk HRg HKg HXg HYg HZg HVg HFV1
    have HRi := am (HRh.out.setRow HZL.out (zCells ⟨x3, true, v1, z68⟩).toArray)
    have HKi := am (KeepBut.row HKh.out HZW.out (zCells ⟨x3, true, v1, z68⟩).toArray)
    have HXi := am ((setRow_other wh zb w.heap.size (zCells ⟨x3, true, v1, z68⟩).toArray HZX.out).trans HXh.out)
    have HYi := am ((setRow_other wh zb b5 (zCells ⟨x3, true, v1, z68⟩).toArray HZY.out).trans HYh.out)
    have HVi := am (R_setRow HVh.out HZh.out (by decide) (zCells ⟨x3, true, v1, z68⟩).toArray)
    have HZi := am (setRow_heap wh zb _ (zCells ⟨x3, true, v1, z68⟩).toArray _ _ HZh.out)
    go_wp2_with (refine wpList_store_seg rfl 68 (.tmp 41) (.tmp 40) rfl zb 2 (vCells v1) rfl rfl 70 _ HZh.out (by show 2 + 3 ≤ 8; decide) (by kernel_rfl) (vCells_all _) (zCells ⟨x3, true, v1, z68⟩).toArray rfl ?_)
    generalize wh.setRow zb (zCells ⟨x3, true, v1, z68⟩).toArray = wi at *
    clear HRh HKh HXh HYh HZh HVh
    refine (HFV2.out wi HRi.out).mono ?_
    rintro e wj ⟨rfl, hr, hk⟩
    have HRj := am hr
    have HKj := am (keep_then HKi.out hk)
    have HXj := am (KeepBut.at_ hk HXi.out HRG.out)
    have HYj := am (KeepBut.at_ hk HYi.out HBG.out)
    have HZj := am (KeepBut.at_ hk HZi.out HZG.out)
    have HVj := am (R_past HVi.out hlt hk)
    clear hr hk HRi HKi HXi HYi HZi HVi HFV2
    have HRk := am (HRj.out.setRow HZL.out (zCells ⟨x3, true, v1, v2⟩).toArray)
    have HKk := am (KeepBut.row HKj.out HZW.out (zCells ⟨x3, true, v1, v2⟩).toArray)
    have HXk := am ((setRow_other wj zb w.heap.size (zCells ⟨x3, true, v1, v2⟩).toArray HZX.out).trans HXj.out)
    have HYk := am ((setRow_other wj zb b5 (zCells ⟨x3, true, v1, v2⟩).toArray HZY.out).trans HYj.out)
    have HVk := am (R_setRow HVj.out HZj.out (by decide) (zCells ⟨x3, true, v1, v2⟩).toArray)
    have HZk := am (setRow_heap wj zb _ (zCells ⟨x3, true, v1, v2⟩).toArray _ _ HZj.out)
    obtain ⟨z, hzz⟩ : ∃ z, z = (⟨x3, true, v1, v2⟩ : S70) := ⟨_, rfl⟩
    go_wp2_with (refine wpList_store_seg rfl 68 (.tmp 44) (.tmp 43) rfl zb 5 (vCells v2) rfl rfl 70 _ HZj.out (by show 5 + 3 ≤ 8; decide) (by kernel_rfl) (vCells_all _) (zCells ⟨x3, true, v1, v2⟩).toArray rfl ?_)
    generalize wj.setRow zb (zCells ⟨x3, true, v1, v2⟩).toArray = wk at *
    rw [← hzz] at HZk EZ
    clear HRj HKj HXj HYj HZj HVj hzz
    have hst := HST0.out
    rw [EZ.out] at hst
    have hzi2 := HZI.out
    rw [EZ.out] at hzi2
    have hl3 := hashQ_len hzi2
    have hF2 := fun W (H : Rr w0 W g s0 qd) => rHash104 w0 W g s0 qd H
    obtain ⟨d4, q4, hkq2⟩ : ∃ k q4, hashQ s0 qd = (k, q4) := ⟨_, _, rfl⟩
    rw [hkq2] at hl3
    simp only [hkq2] at hF2 hst
    dsimp only at hst hl3
    obtain ⟨f, rfl⟩ : ∃ f, d4 = HL f := ⟨_, range_fn d4 hl3⟩
    have HST := am hst
    have HFH := am hF2
    clear hst hF2 hkq2 hl3 hzi2
    have HR6 : Aside0 (Rr w0 wk.drew g s0 qd) := am (HRk.out.below (below_drew (Below.refl _ _)))
    have HK6 : Aside0 (KeepBut w wk.drew g none) := am (KeepBut.below_ HKk.out (below_drew (Below.refl _ _)))
    have HX6 : Aside0 (wk.drew.heap[w.heap.size]? = _) := am HXk.out
    have HY6 : Aside0 (wk.drew.heap[b5]? = _) := am HYk.out
    have HZ6 : Aside0 (wk.drew.heap[zb]? = _) := am HZk.out
    have HV6 : Aside0 (Kd.R kCH 72 wk.drew w.heap.size (fun _ => True) (.slice A l.length c) l) := am (Kd.R_below HVk.out (below_drew (Below.refl _ _)))
    have p34 : wk.drew.cell? ⟨b5, 34, none⟩ = some (.slice A l.length c) := (blk_cell HY6.out 34).trans (HC_34 _ _ _ _ _ _)
    have z0 := (blk_cell HZ6.out 0).trans (show (zCells z).toArray[0]? = some (.int .i64 z.f0) from rfl)
    have z1 := (blk_cell HZ6.out 1).trans (show (zCells z).toArray[1]? = some (.bool z.f1) from rfl)
    have z2 := (blk_cell HZ6.out 2).trans (show (zCells z).toArray[2]? = some (.int .i64 z.f2.f0) from rfl)
    have z3 := (blk_cell HZ6.out 3).trans (show (zCells z).toArray[3]? = some (.int .i64 z.f2.f1) from rfl)
    have z4 := (blk_cell HZ6.out 4).trans (show (zCells z).toArray[4]? = some (.string z.f2.f2) from rfl)
    have z5 := (blk_cell HZ6.out 5).trans (show (zCells z).toArray[5]? = some (.int .i64 z.f3.f0) from rfl)
    have z6 := (blk_cell HZ6.out 6).trans (show (zCells z).toArray[6]? = some (.int .i64 z.f3.f1) from rfl)
    have z7 := (blk_cell HZ6.out 7).trans (show (zCells z).toArray[7]? = some (.string z.f3.f2) from rfl)
    refine start_ (n := 10) (S := fun w' => w'.cell? ⟨b5, 34, none⟩ = some (.slice A l.length c) ∧ w'.cell? ⟨zb, 0, none⟩ = some (.int .i64 z.f0) ∧ w'.cell? ⟨zb, 1, none⟩ = some (.bool z.f1) ∧ w'.cell? ⟨zb, 2, none⟩ = some (.int .i64 z.f2.f0) ∧ w'.cell? ⟨zb, 3, none⟩ = some (.int .i64 z.f2.f1) ∧ w'.cell? ⟨zb, 4, none⟩ = some (.string z.f2.f2) ∧ w'.cell? ⟨zb, 5, none⟩ = some (.int .i64 z.f3.f0) ∧ w'.cell? ⟨zb, 6, none⟩ = some (.int .i64 z.f3.f1) ∧ w'.cell? ⟨zb, 7, none⟩ = some (.string z.f3.f2)) (ds := [9]) #[false, false, false, false, false, false, false, false, false, false] (by kernel_rfl) rfl rfl ⟨p34, z0, z1, z2, z3, z4, z5, z6, z7⟩ (fun hHeld => ?_)
    generalize wk.drew = W6 at *
    refine pu 0 (some 49) ?_ ?_ ?_ ?_ ?_
    rotate_left 2
    ·intro w'
     go_simp
     with_reducible rfl
    ·simp only [Act.put, sA1, sA2, sA3, i64_w, i32_w]
     rfl
    refine pu 3 (some 52) ?_ ?_ ?_ ?_ ?_
    rotate_left 2
    ·intro w'
     go_simp
     with_reducible rfl
    ·simp only [Act.put, sA1, sA2, sA3, i64_w, i32_w]
     rfl
    refine tk 1 (some 50) ?_ ?_ hHeld ?_ ?_ ?_
    rotate_left 2
    ·rintro w' ⟨s0, s1, s2, s3, s4, s5, s6, s7, s8⟩
     go_simp
     with_reducible rfl
    ·simp only [Act.put, sA1, sA2, sA3, i64_w, i32_w]
     rfl
    refine tk 2 (some 51) ?_ ?_ hHeld ?_ ?_ ?_
    rotate_left 2
    ·rintro w' ⟨s0, s1, s2, s3, s4, s5, s6, s7, s8⟩
     go_simp
     with_reducible rfl
    ·simp only [Act.put, sA1, sA2, sA3, i64_w, i32_w]
     rfl
    refine on (i := 4) (N := some 53) rfl rfl (by kernel_rfl) (by decide) (fun K hK => ?_)
    refine goes_ Tryz.func104 (by kernel_rfl) rfl #[.pointer (some ⟨g, 0, none⟩)] (by rfl) rfl rfl (by simp only [List.map_toArray, List.map_cons, List.map_nil]; rfl) ?_
    with_reducible refine (HFH.out W6 HR6.out).mono ?_
    rintro e w7 ⟨rfl, hr, hk⟩
    refine ⟨_, rfl, ?_⟩
    have HR7 := am hr
    have HK7 := am (keep_then HK6.out hk)
    have HX7 := am (KeepBut.at_ hk HX6.out HRG.out)
    have HY7 := am (KeepBut.at_ hk HY6.out HBG.out)
    have HZ7 := am (KeepBut.at_ hk HZ6.out HZG.out)
    have HV7 := am (R_past HV6.out hlt hk)
    clear hr hk
    refine hK.out _ _ ⟨(blk_cell HY7.out 34).trans (HC_34 _ _ _ _ _ _), blk_cell HZ7.out 0, blk_cell HZ7.out 1, blk_cell HZ7.out 2, blk_cell HZ7.out 3, blk_cell HZ7.out 4, blk_cell HZ7.out 5, blk_cell HZ7.out 6, blk_cell HZ7.out 7⟩ (fun hHeld => ?_)
    clear hK K
    refine norm_ (a' := ?_) ?_ ?_
    rotate_left
    ·show Act.put _ (some 53) _ = _
     simp only [Act.put, sA1, sA2, sA3, i64_w, i32_w]
     rfl
    refine pu 5 (some 54) ?_ ?_ ?_ ?_ ?_
    rotate_left 2
    ·intro w'
     show _ = Result.ok (Next.value (Value.agg (chCells z f).toArray)) w'
     kernel_rfl
    ·simp only [Act.put, sA1, sA2, sA3, i64_w, i32_w]
     rfl
    refine on (i := 6) (N := some 55) rfl rfl (by kernel_rfl) (by decide) (fun K hK => ?_)
    refine value_ (w1 := ?_) (v := ?_) (by rfl) rfl ?_ ?_
    rotate_left 2
    ·show _ = Result.ok (Next.value (Value.slice (some ⟨w7.heap.size, 0, none⟩) 1 1)) (w7.alloc (.cells (chCells z f).toArray 72))
     kernel_rfl
    have hba : Below w7.heap.size w7 (w7.alloc (.cells (chCells z f).toArray 72)) := below_alloc (Below.refl _ _) _
    have HBA := am hba
    clear hba
    refine hK.out _ _ ⟨pw_cell_below HBA.out ((blk_cell HY7.out 34).trans (HC_34 _ _ _ _ _ _)), pw_cell_below HBA.out (blk_cell HZ7.out 0), pw_cell_below HBA.out (blk_cell HZ7.out 1), pw_cell_below HBA.out (blk_cell HZ7.out 2), pw_cell_below HBA.out (blk_cell HZ7.out 3), pw_cell_below HBA.out (blk_cell HZ7.out 4), pw_cell_below HBA.out (blk_cell HZ7.out 5), pw_cell_below HBA.out (blk_cell HZ7.out 6), pw_cell_below HBA.out (blk_cell HZ7.out 7)⟩ (fun hHeld => ?_)
    clear hK K
    refine norm_ (a' := ?_) ?_ ?_
    rotate_left
    ·show Act.put _ (some 55) _ = _
     simp only [Act.put, sA1, sA2, sA3, i64_w, i32_w]
     rfl
    refine on (i := 7) (N := some 56) rfl rfl (by kernel_rfl) (by decide) (fun K hK => ?_)
    refine Kd.R_append_step kCH (w0 := w7) w.heap.size (by rfl) (.tmp 50) (.tmp 55) 62 72 (.agg (chCells z70 (fun _ => 0)).toArray) 112 rfl Tryz.underlying62 (by kernel_rfl) (by kernel_rfl) (by decide) (by decide) (.slice A l.length c) l ⟨z, HL f⟩ (chCells z f) (fun _ => True) (fun _ => False) rfl rfl ⟨_, _, rfl, k70_mkM _ _ _ _, rfl, HL_len f⟩ (fun _ h => h.elim) (fun _ _ => trivial) HV7.out (Below.refl _ _) HK7.out.1 (by have := HLN.out; have := HSL.out; omega) ?_
    intro v8 w8 ho _ hg2 _
    have HR8 := am (HR7.out.grown HV7.out hlt hg2)
    have HK8 := am (KeepBut.grown HK7.out HV7.out (Nat.le_refl _) hg2)
    have HX8 := am ((hg2.block _ (blk_lt HX7.out) (Kd.R_ne HV7.out HX7.out (by decide))).trans HX7.out)
    have HY8 := am ((hg2.block _ (blk_lt HY7.out) (Kd.R_ne HV7.out HY7.out (by decide))).trans HY7.out)
    have HZ8 := am ((hg2.block _ (blk_lt HZ7.out) (Kd.R_ne HV7.out HZ7.out (by decide))).trans HZ7.out)
    obtain ⟨A8, c8, e8⟩ := Kd.R_slice ho
    obtain ⟨n9, hn9⟩ : ∃ n9, n9 = (l ++ [(⟨z, HL f⟩ : CH)]).length := ⟨_, rfl⟩
    rw [← hn9] at e8
    subst e8
    have HN9 := am hn9
    have HV8 := am ho
    have q34 : w8.cell? ⟨b5, 34, none⟩ = some (.slice A l.length c) := (blk_cell HY8.out 34).trans (HC_34 _ _ _ _ _ _)
    have qf := blk_frozen HY8.out 34
    clear ho hg2 hn9
    refine hK.out _ _ ⟨(blk_cell HY8.out 34).trans (HC_34 _ _ _ _ _ _), blk_cell HZ8.out 0, blk_cell HZ8.out 1, blk_cell HZ8.out 2, blk_cell HZ8.out 3, blk_cell HZ8.out 4, blk_cell HZ8.out 5, blk_cell HZ8.out 6, blk_cell HZ8.out 7⟩ (fun hHeld => ?_)
    clear hK K
    refine norm_ (a' := ?_) ?_ ?_
    rotate_left
    ·show Act.put _ (some 56) _ = _
     simp only [Act.put, sA1, sA2, sA3, i64_w, i32_w]
     rfl
    refine pu 8 (some 57) ?_ ?_ ?_ ?_ ?_
    rotate_left 2
    ·intro w'
     go_simp
     with_reducible rfl
    ·simp only [Act.put, sA1, sA2, sA3, i64_w, i32_w]
     rfl
    refine last_ (i := 9) (N := none) #[true, true, true, true, true, true, true, true, true, true] rfl rfl (by kernel_rfl) (by decide) (fun K hK => ?_)
    refine skip_ (w1 := ?_) (by rfl) rfl ?_ ?_
    rotate_left
    ·go_simp
     rfl
    refine hK.out _ _ ?_
    clear hK K
    refine done_ (by kernel_rfl) ?_
    have HR9 := am (HR8.out.setCell HGB.out 34 (.slice A8 n9 c8))
    have HK9 := am (KeepBut.cell HK8.out HBW.out 34 (.slice A8 n9 c8))
    have HX9 := am ((Below.heap_setCell w8 ⟨b5, 34, none⟩ (.slice A8 n9 c8) w.heap.size HBX.out).trans HX8.out)
    have HY9 : Aside0 ((w8.setCell ⟨b5, 34, none⟩ (.slice A8 n9 c8)).heap[b5]? = some (.cells (HC x1 x2 fd A8 n9 c8) 64 (0, 0))) := am (by rw [setCell_eq_setRow _ _ _ _ _ _ _ HY8.out]; exact (setRow_heap _ _ _ _ _ _ HY8.out).trans (by rw [HC_set]))
    have HV9 := am (Kd.R_set HV8.out HY8.out (by decide) 34 (.slice A8 n9 c8))
    generalize w8.setCell ⟨b5, 34, none⟩ (.slice A8 n9 c8) = w9 at *
    obtain rfl := HN9.out
    have hsl2 := HSL.out
    go_wp2
    go_roundw
    case rel => exact ⟨i + 1, _, q4, A8, c8, by omega, by go_num, HR9, HK9, HX9, HY9, HV9, ⟨by have := HLN.out; rw [List.length_append, List.length_singleton]; omega⟩, HST⟩
    case measure => simp [intOf]; omega
   by_cases ek0 : k = 0
   ·subst ek0
    have EZ := am (zoneQ_0 EA.out EB.out)
    obtain ⟨z, hzz⟩ : ∃ z, z = (⟨x3, false, z68, z68⟩ : S70) := ⟨_, rfl⟩
    rw [← hzz] at HZf EZ
    clear hzz
    go_wp2_with fail
    have hst := HST0.out
    rw [EZ.out] at hst
    have hzi2 := HZI.out
    rw [EZ.out] at hzi2
    have hl3 := hashQ_len hzi2
    have hF2 := fun W (H : Rr w0 W g s0 qb) => rHash104 w0 W g s0 qb H
    obtain ⟨d4, q4, hkq2⟩ : ∃ k q4, hashQ s0 qb = (k, q4) := ⟨_, _, rfl⟩
    rw [hkq2] at hl3
    simp only [hkq2] at hF2 hst
    dsimp only at hst hl3
    obtain ⟨f, rfl⟩ : ∃ f, d4 = HL f := ⟨_, range_fn d4 hl3⟩
    have HST := am hst
    have HFH := am hF2
    clear hst hF2 hkq2 hl3 hzi2
    have HR6 : Aside0 (Rr w0 wf.drew g s0 qb) := am (HRf.out.below (below_drew (Below.refl _ _)))
    have HK6 : Aside0 (KeepBut w wf.drew g none) := am (KeepBut.below_ HKf.out (below_drew (Below.refl _ _)))
    have HX6 : Aside0 (wf.drew.heap[w.heap.size]? = _) := am HXf.out
    have HY6 : Aside0 (wf.drew.heap[b5]? = _) := am HYf.out
    have HZ6 : Aside0 (wf.drew.heap[zb]? = _) := am HZf.out
    have HV6 : Aside0 (Kd.R kCH 72 wf.drew w.heap.size (fun _ => True) (.slice A l.length c) l) := am (Kd.R_below HVf.out (below_drew (Below.refl _ _)))
    have p34 : wf.drew.cell? ⟨b5, 34, none⟩ = some (.slice A l.length c) := (blk_cell HY6.out 34).trans (HC_34 _ _ _ _ _ _)
    have z0 := (blk_cell HZ6.out 0).trans (show (zCells z).toArray[0]? = some (.int .i64 z.f0) from rfl)
    have z1 := (blk_cell HZ6.out 1).trans (show (zCells z).toArray[1]? = some (.bool z.f1) from rfl)
    have z2 := (blk_cell HZ6.out 2).trans (show (zCells z).toArray[2]? = some (.int .i64 z.f2.f0) from rfl)
    have z3 := (blk_cell HZ6.out 3).trans (show (zCells z).toArray[3]? = some (.int .i64 z.f2.f1) from rfl)
    have z4 := (blk_cell HZ6.out 4).trans (show (zCells z).toArray[4]? = some (.string z.f2.f2) from rfl)
    have z5 := (blk_cell HZ6.out 5).trans (show (zCells z).toArray[5]? = some (.int .i64 z.f3.f0) from rfl)
    have z6 := (blk_cell HZ6.out 6).trans (show (zCells z).toArray[6]? = some (.int .i64 z.f3.f1) from rfl)
    have z7 := (blk_cell HZ6.out 7).trans (show (zCells z).toArray[7]? = some (.string z.f3.f2) from rfl)
    refine start_ (n := 10) (S := fun w' => w'.cell? ⟨b5, 34, none⟩ = some (.slice A l.length c) ∧ w'.cell? ⟨zb, 0, none⟩ = some (.int .i64 z.f0) ∧ w'.cell? ⟨zb, 1, none⟩ = some (.bool z.f1) ∧ w'.cell? ⟨zb, 2, none⟩ = some (.int .i64 z.f2.f0) ∧ w'.cell? ⟨zb, 3, none⟩ = some (.int .i64 z.f2.f1) ∧ w'.cell? ⟨zb, 4, none⟩ = some (.string z.f2.f2) ∧ w'.cell? ⟨zb, 5, none⟩ = some (.int .i64 z.f3.f0) ∧ w'.cell? ⟨zb, 6, none⟩ = some (.int .i64 z.f3.f1) ∧ w'.cell? ⟨zb, 7, none⟩ = some (.string z.f3.f2)) (ds := [9]) #[false, false, false, false, false, false, false, false, false, false] (by kernel_rfl) rfl rfl ⟨p34, z0, z1, z2, z3, z4, z5, z6, z7⟩ (fun hHeld => ?_)
    generalize wf.drew = W6 at *
    refine pu 0 (some 49) ?_ ?_ ?_ ?_ ?_
    rotate_left 2
    ·intro w'
     go_simp
     with_reducible rfl
    ·simp only [Act.put, sA1, sA2, sA3, i64_w, i32_w]
     rfl
    refine pu 3 (some 52) ?_ ?_ ?_ ?_ ?_
    rotate_left 2
    ·intro w'
     go_simp
     with_reducible rfl
    ·simp only [Act.put, sA1, sA2, sA3, i64_w, i32_w]
     rfl
    refine tk 1 (some 50) ?_ ?_ hHeld ?_ ?_ ?_
    rotate_left 2
    ·rintro w' ⟨s0, s1, s2, s3, s4, s5, s6, s7, s8⟩
     go_simp
     with_reducible rfl
    ·simp only [Act.put, sA1, sA2, sA3, i64_w, i32_w]
     rfl
    refine tk 2 (some 51) ?_ ?_ hHeld ?_ ?_ ?_
    rotate_left 2
    ·rintro w' ⟨s0, s1, s2, s3, s4, s5, s6, s7, s8⟩
     go_simp
     with_reducible rfl
    ·simp only [Act.put, sA1, sA2, sA3, i64_w, i32_w]
     rfl
    refine on (i := 4) (N := some 53) rfl rfl (by kernel_rfl) (by decide) (fun K hK => ?_)
    refine goes_ Tryz.func104 (by kernel_rfl) rfl #[.pointer (some ⟨g, 0, none⟩)] (by rfl) rfl rfl (by simp only [List.map_toArray, List.map_cons, List.map_nil]; rfl) ?_
    with_reducible refine (HFH.out W6 HR6.out).mono ?_
    rintro e w7 ⟨rfl, hr, hk⟩
    refine ⟨_, rfl, ?_⟩
    have HR7 := am hr
    have HK7 := am (keep_then HK6.out hk)
    have HX7 := am (KeepBut.at_ hk HX6.out HRG.out)
    have HY7 := am (KeepBut.at_ hk HY6.out HBG.out)
    have HZ7 := am (KeepBut.at_ hk HZ6.out HZG.out)
    have HV7 := am (R_past HV6.out hlt hk)
    clear hr hk
    refine hK.out _ _ ⟨(blk_cell HY7.out 34).trans (HC_34 _ _ _ _ _ _), blk_cell HZ7.out 0, blk_cell HZ7.out 1, blk_cell HZ7.out 2, blk_cell HZ7.out 3, blk_cell HZ7.out 4, blk_cell HZ7.out 5, blk_cell HZ7.out 6, blk_cell HZ7.out 7⟩ (fun hHeld => ?_)
    clear hK K
    refine norm_ (a' := ?_) ?_ ?_
    rotate_left
    ·show Act.put _ (some 53) _ = _
     simp only [Act.put, sA1, sA2, sA3, i64_w, i32_w]
     rfl
    refine pu 5 (some 54) ?_ ?_ ?_ ?_ ?_
    rotate_left 2
    ·intro w'
     show _ = Result.ok (Next.value (Value.agg (chCells z f).toArray)) w'
     kernel_rfl
    ·simp only [Act.put, sA1, sA2, sA3, i64_w, i32_w]
     rfl
    refine on (i := 6) (N := some 55) rfl rfl (by kernel_rfl) (by decide) (fun K hK => ?_)
    refine value_ (w1 := ?_) (v := ?_) (by rfl) rfl ?_ ?_
    rotate_left 2
    ·show _ = Result.ok (Next.value (Value.slice (some ⟨w7.heap.size, 0, none⟩) 1 1)) (w7.alloc (.cells (chCells z f).toArray 72))
     kernel_rfl
    have hba : Below w7.heap.size w7 (w7.alloc (.cells (chCells z f).toArray 72)) := below_alloc (Below.refl _ _) _
    have HBA := am hba
    clear hba
    refine hK.out _ _ ⟨pw_cell_below HBA.out ((blk_cell HY7.out 34).trans (HC_34 _ _ _ _ _ _)), pw_cell_below HBA.out (blk_cell HZ7.out 0), pw_cell_below HBA.out (blk_cell HZ7.out 1), pw_cell_below HBA.out (blk_cell HZ7.out 2), pw_cell_below HBA.out (blk_cell HZ7.out 3), pw_cell_below HBA.out (blk_cell HZ7.out 4), pw_cell_below HBA.out (blk_cell HZ7.out 5), pw_cell_below HBA.out (blk_cell HZ7.out 6), pw_cell_below HBA.out (blk_cell HZ7.out 7)⟩ (fun hHeld => ?_)
    clear hK K
    refine norm_ (a' := ?_) ?_ ?_
    rotate_left
    ·show Act.put _ (some 55) _ = _
     simp only [Act.put, sA1, sA2, sA3, i64_w, i32_w]
     rfl
    refine on (i := 7) (N := some 56) rfl rfl (by kernel_rfl) (by decide) (fun K hK => ?_)
    refine Kd.R_append_step kCH (w0 := w7) w.heap.size (by rfl) (.tmp 50) (.tmp 55) 62 72 (.agg (chCells z70 (fun _ => 0)).toArray) 112 rfl Tryz.underlying62 (by kernel_rfl) (by kernel_rfl) (by decide) (by decide) (.slice A l.length c) l ⟨z, HL f⟩ (chCells z f) (fun _ => True) (fun _ => False) rfl rfl ⟨_, _, rfl, k70_mkM _ _ _ _, rfl, HL_len f⟩ (fun _ h => h.elim) (fun _ _ => trivial) HV7.out (Below.refl _ _) HK7.out.1 (by have := HLN.out; have := HSL.out; omega) ?_
    intro v8 w8 ho _ hg2 _
    have HR8 := am (HR7.out.grown HV7.out hlt hg2)
    have HK8 := am (KeepBut.grown HK7.out HV7.out (Nat.le_refl _) hg2)
    have HX8 := am ((hg2.block _ (blk_lt HX7.out) (Kd.R_ne HV7.out HX7.out (by decide))).trans HX7.out)
    have HY8 := am ((hg2.block _ (blk_lt HY7.out) (Kd.R_ne HV7.out HY7.out (by decide))).trans HY7.out)
    have HZ8 := am ((hg2.block _ (blk_lt HZ7.out) (Kd.R_ne HV7.out HZ7.out (by decide))).trans HZ7.out)
    obtain ⟨A8, c8, e8⟩ := Kd.R_slice ho
    obtain ⟨n9, hn9⟩ : ∃ n9, n9 = (l ++ [(⟨z, HL f⟩ : CH)]).length := ⟨_, rfl⟩
    rw [← hn9] at e8
    subst e8
    have HN9 := am hn9
    have HV8 := am ho
    have q34 : w8.cell? ⟨b5, 34, none⟩ = some (.slice A l.length c) := (blk_cell HY8.out 34).trans (HC_34 _ _ _ _ _ _)
    have qf := blk_frozen HY8.out 34
    clear ho hg2 hn9
    refine hK.out _ _ ⟨(blk_cell HY8.out 34).trans (HC_34 _ _ _ _ _ _), blk_cell HZ8.out 0, blk_cell HZ8.out 1, blk_cell HZ8.out 2, blk_cell HZ8.out 3, blk_cell HZ8.out 4, blk_cell HZ8.out 5, blk_cell HZ8.out 6, blk_cell HZ8.out 7⟩ (fun hHeld => ?_)
    clear hK K
    refine norm_ (a' := ?_) ?_ ?_
    rotate_left
    ·show Act.put _ (some 56) _ = _
     simp only [Act.put, sA1, sA2, sA3, i64_w, i32_w]
     rfl
    refine pu 8 (some 57) ?_ ?_ ?_ ?_ ?_
    rotate_left 2
    ·intro w'
     go_simp
     with_reducible rfl
    ·simp only [Act.put, sA1, sA2, sA3, i64_w, i32_w]
     rfl
    refine last_ (i := 9) (N := none) #[true, true, true, true, true, true, true, true, true, true] rfl rfl (by kernel_rfl) (by decide) (fun K hK => ?_)
    refine skip_ (w1 := ?_) (by rfl) rfl ?_ ?_
    rotate_left
    ·go_simp
     rfl
    refine hK.out _ _ ?_
    clear hK K
    refine done_ (by kernel_rfl) ?_
    have HR9 := am (HR8.out.setCell HGB.out 34 (.slice A8 n9 c8))
    have HK9 := am (KeepBut.cell HK8.out HBW.out 34 (.slice A8 n9 c8))
    have HX9 := am ((Below.heap_setCell w8 ⟨b5, 34, none⟩ (.slice A8 n9 c8) w.heap.size HBX.out).trans HX8.out)
    have HY9 : Aside0 ((w8.setCell ⟨b5, 34, none⟩ (.slice A8 n9 c8)).heap[b5]? = some (.cells (HC x1 x2 fd A8 n9 c8) 64 (0, 0))) := am (by rw [setCell_eq_setRow _ _ _ _ _ _ _ HY8.out]; exact (setRow_heap _ _ _ _ _ _ HY8.out).trans (by rw [HC_set]))
    have HV9 := am (Kd.R_set HV8.out HY8.out (by decide) 34 (.slice A8 n9 c8))
    generalize w8.setCell ⟨b5, 34, none⟩ (.slice A8 n9 c8) = w9 at *
    obtain rfl := HN9.out
    have hsl2 := HSL.out
    go_wp2
    go_roundw
    case rel => exact ⟨i + 1, _, q4, A8, c8, by omega, by go_num, HR9, HK9, HX9, HY9, HV9, ⟨by have := HLN.out; rw [List.length_append, List.length_singleton]; omega⟩, HST⟩
    case measure => simp [intOf]; omega
   ·have EZ := am (zoneQ_n EA.out EB.out ek0 ek)
    have b1 : (k == 1) = false := beq_eq_false_iff_ne.2 ek
    have hk2 : k > 1 := by omega
    have hF := fun W (H : Rr w0 W g s0 qb) => rFail 4 w0 W g s0 qb H
    generalize failQ 4 qb = qc at *
    have HFL := am hF
    clear hF
    go_wp2_with fail
    refine (HFL.out wf HRf.out).mono ?_
    rintro e wg ⟨rfl, hr, hk⟩
    have HRg := am hr
    have HKg := am (keep_then HKf.out hk)
    have HXg := am (KeepBut.at_ hk HXf.out HRG.out)
    have HYg := am (KeepBut.at_ hk HYf.out HBG.out)
    have HZg := am (KeepBut.at_ hk HZf.out HZG.out)
    have HVg := am (R_past HVf.out hlt hk)
    clear hr hk HRf HKf HXf HYf HZf HVf HFL
    obtain ⟨z, hzz⟩ : ∃ z, z = (⟨x3, false, z68, z68⟩ : S70) := ⟨_, rfl⟩
    rw [← hzz] at HZg EZ
    clear hzz
    go_wp2_with fail
    have hst := HST0.out
    rw [EZ.out] at hst
    have hzi2 := HZI.out
    rw [EZ.out] at hzi2
    have hl3 := hashQ_len hzi2
    have hF2 := fun W (H : Rr w0 W g s0 qc) => rHash104 w0 W g s0 qc H
    obtain ⟨d4, q4, hkq2⟩ : ∃ k q4, hashQ s0 qc = (k, q4) := ⟨_, _, rfl⟩
    rw [hkq2] at hl3
    simp only [hkq2] at hF2 hst
    dsimp only at hst hl3
    obtain ⟨f, rfl⟩ : ∃ f, d4 = HL f := ⟨_, range_fn d4 hl3⟩
    have HST := am hst
    have HFH := am hF2
    clear hst hF2 hkq2 hl3 hzi2
    have HR6 : Aside0 (Rr w0 wg.drew g s0 qc) := am (HRg.out.below (below_drew (Below.refl _ _)))
    have HK6 : Aside0 (KeepBut w wg.drew g none) := am (KeepBut.below_ HKg.out (below_drew (Below.refl _ _)))
    have HX6 : Aside0 (wg.drew.heap[w.heap.size]? = _) := am HXg.out
    have HY6 : Aside0 (wg.drew.heap[b5]? = _) := am HYg.out
    have HZ6 : Aside0 (wg.drew.heap[zb]? = _) := am HZg.out
    have HV6 : Aside0 (Kd.R kCH 72 wg.drew w.heap.size (fun _ => True) (.slice A l.length c) l) := am (Kd.R_below HVg.out (below_drew (Below.refl _ _)))
    have p34 : wg.drew.cell? ⟨b5, 34, none⟩ = some (.slice A l.length c) := (blk_cell HY6.out 34).trans (HC_34 _ _ _ _ _ _)
    have z0 := (blk_cell HZ6.out 0).trans (show (zCells z).toArray[0]? = some (.int .i64 z.f0) from rfl)
    have z1 := (blk_cell HZ6.out 1).trans (show (zCells z).toArray[1]? = some (.bool z.f1) from rfl)
    have z2 := (blk_cell HZ6.out 2).trans (show (zCells z).toArray[2]? = some (.int .i64 z.f2.f0) from rfl)
    have z3 := (blk_cell HZ6.out 3).trans (show (zCells z).toArray[3]? = some (.int .i64 z.f2.f1) from rfl)
    have z4 := (blk_cell HZ6.out 4).trans (show (zCells z).toArray[4]? = some (.string z.f2.f2) from rfl)
    have z5 := (blk_cell HZ6.out 5).trans (show (zCells z).toArray[5]? = some (.int .i64 z.f3.f0) from rfl)
    have z6 := (blk_cell HZ6.out 6).trans (show (zCells z).toArray[6]? = some (.int .i64 z.f3.f1) from rfl)
    have z7 := (blk_cell HZ6.out 7).trans (show (zCells z).toArray[7]? = some (.string z.f3.f2) from rfl)
    refine start_ (n := 10) (S := fun w' => w'.cell? ⟨b5, 34, none⟩ = some (.slice A l.length c) ∧ w'.cell? ⟨zb, 0, none⟩ = some (.int .i64 z.f0) ∧ w'.cell? ⟨zb, 1, none⟩ = some (.bool z.f1) ∧ w'.cell? ⟨zb, 2, none⟩ = some (.int .i64 z.f2.f0) ∧ w'.cell? ⟨zb, 3, none⟩ = some (.int .i64 z.f2.f1) ∧ w'.cell? ⟨zb, 4, none⟩ = some (.string z.f2.f2) ∧ w'.cell? ⟨zb, 5, none⟩ = some (.int .i64 z.f3.f0) ∧ w'.cell? ⟨zb, 6, none⟩ = some (.int .i64 z.f3.f1) ∧ w'.cell? ⟨zb, 7, none⟩ = some (.string z.f3.f2)) (ds := [9]) #[false, false, false, false, false, false, false, false, false, false] (by kernel_rfl) rfl rfl ⟨p34, z0, z1, z2, z3, z4, z5, z6, z7⟩ (fun hHeld => ?_)
    generalize wg.drew = W6 at *
    refine pu 0 (some 49) ?_ ?_ ?_ ?_ ?_
    rotate_left 2
    ·intro w'
     go_simp
     with_reducible rfl
    ·simp only [Act.put, sA1, sA2, sA3, i64_w, i32_w]
     rfl
    refine pu 3 (some 52) ?_ ?_ ?_ ?_ ?_
    rotate_left 2
    ·intro w'
     go_simp
     with_reducible rfl
    ·simp only [Act.put, sA1, sA2, sA3, i64_w, i32_w]
     rfl
    refine tk 1 (some 50) ?_ ?_ hHeld ?_ ?_ ?_
    rotate_left 2
    ·rintro w' ⟨s0, s1, s2, s3, s4, s5, s6, s7, s8⟩
     go_simp
     with_reducible rfl
    ·simp only [Act.put, sA1, sA2, sA3, i64_w, i32_w]
     rfl
    refine tk 2 (some 51) ?_ ?_ hHeld ?_ ?_ ?_
    rotate_left 2
    ·rintro w' ⟨s0, s1, s2, s3, s4, s5, s6, s7, s8⟩
     go_simp
     with_reducible rfl
    ·simp only [Act.put, sA1, sA2, sA3, i64_w, i32_w]
     rfl
    refine on (i := 4) (N := some 53) rfl rfl (by kernel_rfl) (by decide) (fun K hK => ?_)
    refine goes_ Tryz.func104 (by kernel_rfl) rfl #[.pointer (some ⟨g, 0, none⟩)] (by rfl) rfl rfl (by simp only [List.map_toArray, List.map_cons, List.map_nil]; rfl) ?_
    with_reducible refine (HFH.out W6 HR6.out).mono ?_
    rintro e w7 ⟨rfl, hr, hk⟩
    refine ⟨_, rfl, ?_⟩
    have HR7 := am hr
    have HK7 := am (keep_then HK6.out hk)
    have HX7 := am (KeepBut.at_ hk HX6.out HRG.out)
    have HY7 := am (KeepBut.at_ hk HY6.out HBG.out)
    have HZ7 := am (KeepBut.at_ hk HZ6.out HZG.out)
    have HV7 := am (R_past HV6.out hlt hk)
    clear hr hk
    refine hK.out _ _ ⟨(blk_cell HY7.out 34).trans (HC_34 _ _ _ _ _ _), blk_cell HZ7.out 0, blk_cell HZ7.out 1, blk_cell HZ7.out 2, blk_cell HZ7.out 3, blk_cell HZ7.out 4, blk_cell HZ7.out 5, blk_cell HZ7.out 6, blk_cell HZ7.out 7⟩ (fun hHeld => ?_)
    clear hK K
    refine norm_ (a' := ?_) ?_ ?_
    rotate_left
    ·show Act.put _ (some 53) _ = _
     simp only [Act.put, sA1, sA2, sA3, i64_w, i32_w]
     rfl
    refine pu 5 (some 54) ?_ ?_ ?_ ?_ ?_
    rotate_left 2
    ·intro w'
     show _ = Result.ok (Next.value (Value.agg (chCells z f).toArray)) w'
     kernel_rfl
    ·simp only [Act.put, sA1, sA2, sA3, i64_w, i32_w]
     rfl
    refine on (i := 6) (N := some 55) rfl rfl (by kernel_rfl) (by decide) (fun K hK => ?_)
    refine value_ (w1 := ?_) (v := ?_) (by rfl) rfl ?_ ?_
    rotate_left 2
    ·show _ = Result.ok (Next.value (Value.slice (some ⟨w7.heap.size, 0, none⟩) 1 1)) (w7.alloc (.cells (chCells z f).toArray 72))
     kernel_rfl
    have hba : Below w7.heap.size w7 (w7.alloc (.cells (chCells z f).toArray 72)) := below_alloc (Below.refl _ _) _
    have HBA := am hba
    clear hba
    refine hK.out _ _ ⟨pw_cell_below HBA.out ((blk_cell HY7.out 34).trans (HC_34 _ _ _ _ _ _)), pw_cell_below HBA.out (blk_cell HZ7.out 0), pw_cell_below HBA.out (blk_cell HZ7.out 1), pw_cell_below HBA.out (blk_cell HZ7.out 2), pw_cell_below HBA.out (blk_cell HZ7.out 3), pw_cell_below HBA.out (blk_cell HZ7.out 4), pw_cell_below HBA.out (blk_cell HZ7.out 5), pw_cell_below HBA.out (blk_cell HZ7.out 6), pw_cell_below HBA.out (blk_cell HZ7.out 7)⟩ (fun hHeld => ?_)
    clear hK K
    refine norm_ (a' := ?_) ?_ ?_
    rotate_left
    ·show Act.put _ (some 55) _ = _
     simp only [Act.put, sA1, sA2, sA3, i64_w, i32_w]
     rfl
    refine on (i := 7) (N := some 56) rfl rfl (by kernel_rfl) (by decide) (fun K hK => ?_)
    refine Kd.R_append_step kCH (w0 := w7) w.heap.size (by rfl) (.tmp 50) (.tmp 55) 62 72 (.agg (chCells z70 (fun _ => 0)).toArray) 112 rfl Tryz.underlying62 (by kernel_rfl) (by kernel_rfl) (by decide) (by decide) (.slice A l.length c) l ⟨z, HL f⟩ (chCells z f) (fun _ => True) (fun _ => False) rfl rfl ⟨_, _, rfl, k70_mkM _ _ _ _, rfl, HL_len f⟩ (fun _ h => h.elim) (fun _ _ => trivial) HV7.out (Below.refl _ _) HK7.out.1 (by have := HLN.out; have := HSL.out; omega) ?_
    intro v8 w8 ho _ hg2 _
    have HR8 := am (HR7.out.grown HV7.out hlt hg2)
    have HK8 := am (KeepBut.grown HK7.out HV7.out (Nat.le_refl _) hg2)
    have HX8 := am ((hg2.block _ (blk_lt HX7.out) (Kd.R_ne HV7.out HX7.out (by decide))).trans HX7.out)
    have HY8 := am ((hg2.block _ (blk_lt HY7.out) (Kd.R_ne HV7.out HY7.out (by decide))).trans HY7.out)
    have HZ8 := am ((hg2.block _ (blk_lt HZ7.out) (Kd.R_ne HV7.out HZ7.out (by decide))).trans HZ7.out)
    obtain ⟨A8, c8, e8⟩ := Kd.R_slice ho
    obtain ⟨n9, hn9⟩ : ∃ n9, n9 = (l ++ [(⟨z, HL f⟩ : CH)]).length := ⟨_, rfl⟩
    rw [← hn9] at e8
    subst e8
    have HN9 := am hn9
    have HV8 := am ho
    have q34 : w8.cell? ⟨b5, 34, none⟩ = some (.slice A l.length c) := (blk_cell HY8.out 34).trans (HC_34 _ _ _ _ _ _)
    have qf := blk_frozen HY8.out 34
    clear ho hg2 hn9
    refine hK.out _ _ ⟨(blk_cell HY8.out 34).trans (HC_34 _ _ _ _ _ _), blk_cell HZ8.out 0, blk_cell HZ8.out 1, blk_cell HZ8.out 2, blk_cell HZ8.out 3, blk_cell HZ8.out 4, blk_cell HZ8.out 5, blk_cell HZ8.out 6, blk_cell HZ8.out 7⟩ (fun hHeld => ?_)
    clear hK K
    refine norm_ (a' := ?_) ?_ ?_
    rotate_left
    ·show Act.put _ (some 56) _ = _
     simp only [Act.put, sA1, sA2, sA3, i64_w, i32_w]
     rfl
    refine pu 8 (some 57) ?_ ?_ ?_ ?_ ?_
    rotate_left 2
    ·intro w'
     go_simp
     with_reducible rfl
    ·simp only [Act.put, sA1, sA2, sA3, i64_w, i32_w]
     rfl
    refine last_ (i := 9) (N := none) #[true, true, true, true, true, true, true, true, true, true] rfl rfl (by kernel_rfl) (by decide) (fun K hK => ?_)
    refine skip_ (w1 := ?_) (by rfl) rfl ?_ ?_
    rotate_left
    ·go_simp
     rfl
    refine hK.out _ _ ?_
    clear hK K
    refine done_ (by kernel_rfl) ?_
    have HR9 := am (HR8.out.setCell HGB.out 34 (.slice A8 n9 c8))
    have HK9 := am (KeepBut.cell HK8.out HBW.out 34 (.slice A8 n9 c8))
    have HX9 := am ((Below.heap_setCell w8 ⟨b5, 34, none⟩ (.slice A8 n9 c8) w.heap.size HBX.out).trans HX8.out)
    have HY9 : Aside0 ((w8.setCell ⟨b5, 34, none⟩ (.slice A8 n9 c8)).heap[b5]? = some (.cells (HC x1 x2 fd A8 n9 c8) 64 (0, 0))) := am (by rw [setCell_eq_setRow _ _ _ _ _ _ _ HY8.out]; exact (setRow_heap _ _ _ _ _ _ HY8.out).trans (by rw [HC_set]))
    have HV9 := am (Kd.R_set HV8.out HY8.out (by decide) 34 (.slice A8 n9 c8))
    generalize w8.setCell ⟨b5, 34, none⟩ (.slice A8 n9 c8) = w9 at *
    obtain rfl := HN9.out
    have hsl2 := HSL.out
    go_wp2
    go_roundw
    case rel => exact ⟨i + 1, _, q4, A8, c8, by omega, by go_num, HR9, HK9, HX9, HY9, HV9, ⟨by have := HLN.out; rw [List.length_append, List.length_singleton]; omega⟩, HST⟩
    case measure => simp [intOf]; omega
  ·obtain rfl : i = s.length := by omega
   have e := HQ.out
   rw [Nat.sub_self, chsQ] at e
   rw [← e] at HRES
   dsimp only at HRES
   have HZ := am hq0
   clear e HQ hq0
   have HRD := am (Kd.R_reads' HVr.out)
   obtain ⟨sb, hsb⟩ : ∃ sb, sb = soundP ⟨x1, x2, HL fd, l⟩ s := ⟨_, rfl⟩
   rw [← hsb] at HRES
   have hS := refSound_calls ⟨x1, x2, HL fd, l⟩ A c A1 c1 s wr (HL_len fd) HRD.out.2.1 HRD.out.2.2 (HS.out wr HKr.out) HC1.out
   rw [← hsb] at hS
   have HSO := am hS
   clear hS hsb
   go_wp2_with (first | (refine gate_guard (by rfl) ?_; dsimp only; refine wpList_load_row rfl 64 (.tmp 5) rfl b5 rfl 64 (HC x1 x2 fd A l.length c) (0, 0) _ HYr.out Tryz.underlying64 rfl (by rw [HC_size]; kernel_rfl) ?_) | fail)
   refine HSO.out.mono ?_
   rintro e wb ⟨rfl, hb⟩
   have HRb := am (HRr.out.below hb)
   have HKb := am (KeepBut.below_ HKr.out hb)
   have HXb := am ((hb.block _ (blk_lt HXr.out)).trans HXr.out)
   have HYb := am ((hb.block _ (blk_lt HYr.out)).trans HYr.out)
   have HVb := am (Kd.R_below HVr.out hb)
   clear hb c2
   cases sb with
   | true =>
    have e := HRES.out
    rw [if_pos rfl, failQ_zero, if_pos HZ.out] at e
    have HRR := am e
    have c3 := HRb.out.err
    rw [HZ.out] at c3
    clear e
    have HW1 := am (setRow_heap wb w.heap.size _ (HC x1 x2 fd A l.length c) _ _ HXb.out)
    go_wp2_with (first | (refine wpList_load_row rfl 64 (.tmp 5) rfl b5 rfl 64 (HC x1 x2 fd A l.length c) (0, 0) _ HYb.out Tryz.underlying64 rfl (by rw [HC_size]; kernel_rfl) ?_) | (refine wpList_store_row rfl 64 (.tmp 4) (.tmp 77) rfl w.heap.size (HC x1 x2 fd A l.length c) rfl rfl 64 _ HXb.out (by rw [HC_size]; kernel_rfl) (by rw [HC_size, HC_size]) (HC_all _ _ _ _ _ _) ?_))
    refine bodyPost_ret (v := .agg (HC x1 x2 fd A l.length c)) (results_cell_row rfl _ _ w.heap.size 64 (HC x1 x2 fd A l.length c) (0, 0) _ rfl HW1.out Tryz.underlying64 rfl (by rw [HC_size]; kernel_rfl)) rfl ?_
    rw [HRR.out, HC_hd]
    exact ⟨A, c, rfl, (Kd.R_reads' HVb.out).2.1, R_setRow HVb.out HXb.out (by decide) _, HRb.out.setRow hlt _, KeepBut.row HKb.out (Nat.le_refl _) _⟩
   | false =>
    have hne := failQ_ne (e := 4) q' (by decide)
    have e : r = (if (failQ 4 q').2.1 = 0 then ⟨x1, x2, HL fd, l⟩ else zHead, failQ 4 q') := HRES.out
    rw [if_neg hne] at e
    have HRR := am e
    have HF4 := am (rFail 4 w0 wb g s0 q' HRb.out)
    have c3 := HRb.out.err
    rw [HZ.out] at c3
    generalize failQ 4 q' = qf at *
    have hg2 : (qf.2.1 != 0) = true := by simpa using hne
    clear e hne
    go_wp2_with fail
    refine HF4.out.mono ?_
    rintro e wd ⟨rfl, hr, hk⟩
    have HRd := am hr
    have HKd := am (keep_then HKb.out hk)
    have HXd := am (KeepBut.at_ hk HXb.out HRG.out)
    have c4 := hr.err
    clear hr hk c3
    go_wp2_with (refine wpList_store_row rfl 64 (.tmp 4) (.tmp 76) rfl w.heap.size (HC 0 0 (fun _ => 0) none 0 0) rfl rfl 64 _ HXd.out (by rw [HC_size]; kernel_rfl) rfl (HC_all _ _ _ _ _ _) ?_)
    rw [setRow_self wd w.heap.size _ _ _ HXd.out]
    refine bodyPost_ret (v := .agg (HC 0 0 (fun _ => 0) none 0 0)) (results_cell_row rfl _ _ w.heap.size 64 (HC 0 0 (fun _ => 0) none 0 0) (0, 0) _ rfl HXd.out Tryz.underlying64 rfl (by rw [HC_size]; kernel_rfl)) rfl ?_
    rw [HRR.out, HC_z]
    exact ⟨none, 0, rfl, Nat.le_refl _, Kd.R_nil _ _ _ _ _, HRd.out, HKd.out⟩
end
end Go.Proofs.YtjmhiklmlgbifaaGreatDoor.PMan

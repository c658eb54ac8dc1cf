/- Texts of this proof, put into one, without what it does not use: MuH. -/
import Derived.Test.YtjmhiklmlgbifaaGreatDoorPB35
section
namespace Go.Proofs.YtjmhiklmlgbifaaGreatDoor.PMan
open Go.RowKit Go.Proofs.YtjmhiklmlgbifaaGreatDoorW.PrintWords Go.Proofs.YtjmhiklmlgbifaaGreatDoorW.PrintLast Go.Proofs.YtjmhiklmlgbifaaGreatDoorW.PrintMore
attribute [local go_sem] max2_int min2_int max_two min_two
set_option linter.unusedVariables false
set_option linter.unusedSimpArgs false
abbrev HL (f : Nat → Int) : List Int := (List.range 32).map f
/-- A header's cells, its digest told by a function. -/
def HC (x y : Int) (f : Nat → Int) (A : Option Addr) (n c : Nat) : Array Value := (.int .i64 x :: .int .i64 y :: (hashCells (HL f) ++ [.slice A n c])).toArray
theorem HC_size (x y : Int) (f : Nat → Int) (A : Option Addr) (n c : Nat) : (HC x y f A n c).size = 35 := by kernel_rfl
theorem HC_all (x y : Int) (f : Nat → Int) (A : Option Addr) (n c : Nat) : (HC x y f A n c).all (·.oneCell') = true := by kernel_rfl
theorem HC_34 (x y : Int) (f : Nat → Int) (A : Option Addr) (n c : Nat) : (HC x y f A n c)[34]? = some (.slice A n c) := by kernel_rfl
theorem HC_set (x y : Int) (f : Nat → Int) (A A' : Option Addr) (n c n' c' : Nat) : (HC x y f A n c).setIfInBounds 34 (.slice A' n' c') = HC x y f A' n' c' := by kernel_rfl
theorem HC_hash (x y : Int) (f : Nat → Int) (A : Option Addr) (n c : Nat) : ((HC x y (fun _ => 0) A n c).toList.take 2 ++ (hashCells (HL f)).toArray.toList ++ (HC x y (fun _ => 0) A n c).toList.drop (2 + (hashCells (HL f)).toArray.size)).toArray = HC x y f A n c := by kernel_rfl
theorem HC_z : HC 0 0 (fun _ => 0) none 0 0 = (hdCells zHead none 0).toArray := by kernel_rfl
theorem HC_zero : HC 0 0 (fun _ => 0) none 0 0 = #[.int .i64 0, .int .i64 0, .int .u8 0, .int .u8 0, .int .u8 0, .int .u8 0, .int .u8 0, .int .u8 0, .int .u8 0, .int .u8 0, .int .u8 0, .int .u8 0, .int .u8 0, .int .u8 0, .int .u8 0, .int .u8 0, .int .u8 0, .int .u8 0, .int .u8 0, .int .u8 0, .int .u8 0, .int .u8 0, .int .u8 0, .int .u8 0, .int .u8 0, .int .u8 0, .int .u8 0, .int .u8 0, .int .u8 0, .int .u8 0, .int .u8 0, .int .u8 0, .int .u8 0, .int .u8 0, .slice none 0 0] := by kernel_rfl
theorem HC_hd (x y : Int) (f : Nat → Int) (A : Option Addr) (c : Nat) (l : List CH) : HC x y f A l.length c = (hdCells ⟨x, y, HL f, l⟩ A c).toArray := rfl
theorem hc32_size (f : Nat → Int) : (hashCells (HL f)).toArray.size = 32 := by kernel_rfl
theorem hc32_all (f : Nat → Int) : (hashCells (HL f)).toArray.all (·.oneCell') = true := by kernel_rfl
theorem HL_len (f : Nat → Int) : (HL f).length = 32 := by rw [List.length_map, List.length_range]
def chCells (z : S70) (f : Nat → Int) : List Value := zCells z ++ hashCells (HL f)
theorem qMin (v : Int) : (if (65537 : Int) < v then 65537 else v) = upN 65536 v := by
  unfold upN
  by_cases e : (65537 : Int) < v
  · rw [if_pos e, if_pos (by omega)]; rfl
  · rw [if_neg e]
    by_cases e2 : v > 65536
    · rw [if_pos e2]; omega
    · rw [if_neg e2]
theorem chs_step {s0 : List Int} {n : Nat} {l : List CH} {q : St} : ((chQ s0 q).2.2.1 ≠ 0 → (chsQ s0 (n + 1) l q).2 = (chQ s0 q).2) ∧ ((chQ s0 q).2.2.1 = 0 → chsQ s0 (n + 1) l q = chsQ s0 n (l ++ [(chQ s0 q).1]) (chQ s0 q).2) := by
  by_cases e : q.2.1 = 0
  · rw [chsQ, if_pos e]
    exact ⟨fun h => by rw [chsQ_err h], fun _ => rfl⟩
  · rw [chsQ_err e, chQ_err e]
    exact ⟨fun _ => rfl, fun h => absurd h e⟩
set_option maxHeartbeats 16000000 in
set_option maxRecDepth 100000 in
theorem qHead (A1 : Option Addr) (c1 : Nat) (s : List S123) (w0 w : World) (g : Nat) (s0 : List Int) (q : St) (h : Rs w0 w g s0 q) (hs : ∀ W, KeepBut w W g none → Kd.C k123 W A1 s.length s) (hc1 : s.length ≤ c1) (hsl : s.length ≤ 1000000) :
    Calls Tryz.prog 92 #[.pointer (some ⟨g, 0, none⟩), .slice A1 s.length c1] w fun e w' => ∃ A c, e = .returned (.agg (hdCells (headQ s0 s q).1 A c).toArray) ∧ (headQ s0 s q).1.cols.length ≤ c ∧ Kd.R kCH 72 w' w.heap.size (fun _ => True) (.slice A (headQ s0 s q).1.cols.length c) (headQ s0 s q).1.cols ∧ Rs w0 w' g s0 (headQ s0 s q).2 ∧ KeepBut w w' g none := by
  have HR := Aside0.mk h
  have HS := Aside0.mk hs
  have HC1 := Aside0.mk hc1
  have hlt := h.lt
  obtain ⟨r, hr⟩ : ∃ r, r = headQ s0 s q := ⟨_, rfl⟩
  rw [← hr]
  unfold headQ headE headR numQ at hr
  have hxr : ∀ v : Int, 0 ≤ v → 0 ≤ upN 65536 v ∧ upN 65536 v ≤ 65537 := fun v hv => by unfold upN; split <;> omega
  have hvr := varQ_range h.inn
  have hF := fun W (H : Rs w0 W g s0 q) => qVar w0 W g s0 q H
  obtain ⟨v1, q1, hkq⟩ : ∃ k q1, varQ s0 q = (k, q1) := ⟨_, _, rfl⟩
  have hi1 := varQ_in h.inn
  rw [hkq] at hr hvr hi1
  simp only [hkq] at hF
  dsimp only at hr hvr hi1
  have HF1 := Aside0.mk hF
  clear hkq hF h
  have hvr2 := varQ_range hi1
  have hF := fun W (H : Rs w0 W g s0 q1) => qVar w0 W g s0 q1 H
  obtain ⟨v2, q2, hkq⟩ : ∃ k q2, varQ s0 q1 = (k, q2) := ⟨_, _, rfl⟩
  have hi2 := varQ_in hi1
  rw [hkq] at hr hvr2 hi2
  simp only [hkq] at hF
  dsimp only at hr hvr2 hi2
  have HF2 := Aside0.mk hF
  clear hkq hF
  have hl3 := hashQ_len hi2
  have hF := fun W (H : Rs w0 W g s0 q2) => qHash w0 W g s0 q2 H
  obtain ⟨d3, q3, hkq⟩ : ∃ k q3, hashQ s0 q2 = (k, q3) := ⟨_, _, rfl⟩
  rw [hkq] at hr hl3
  simp only [hkq] at hF
  dsimp only at hr hl3
  obtain ⟨fd, rfl⟩ : ∃ fd, d3 = HL fd := ⟨_, range_fn d3 hl3⟩
  have HF3 := Aside0.mk hF
  clear hkq hF hl3 hi1 hi2
  have hm1 := qMin v1
  have hm2 := qMin v2
  have hw1 := hxr v1 hvr.1
  have hw2 := hxr v2 hvr2.1
  generalize upN 65536 v1 = x1 at *
  generalize upN 65536 v2 = x2 at *
  have hwx1 : wrap64 x1 = x1 := by unfold wrap64; omega
  have hwx2 : wrap64 x2 = x2 := by unfold wrap64; omega
  have HRES := Aside0.mk hr
  clear hr hxr hvr hvr2 hw1 hw2
  go_enter Tryz.func92, Tryz.ntmps92
  go_wp2_with fail
  have hx0 : (w.alloc (.cells #[.int .i64 0, .int .i64 0, .int .u8 0, .int .u8 0, .int .u8 0, .int .u8 0, .int .u8 0, .int .u8 0, .int .u8 0, .int .u8 0, .int .u8 0, .int .u8 0, .int .u8 0, .int .u8 0, .int .u8 0, .int .u8 0, .int .u8 0, .int .u8 0, .int .u8 0, .int .u8 0, .int .u8 0, .int .u8 0, .int .u8 0, .int .u8 0, .int .u8 0, .int .u8 0, .int .u8 0, .int .u8 0, .int .u8 0, .int .u8 0, .int .u8 0, .int .u8 0, .int .u8 0, .int .u8 0, .slice none 0 0] 64)).heap[w.heap.size]? = some (.cells (HC 0 0 (fun _ => 0) none 0 0) 64 (0, 0)) := (heap_alloc_new w _).trans (by rw [HC_zero])
  have hb0 : Below w.heap.size w (w.alloc (.cells #[.int .i64 0, .int .i64 0, .int .u8 0, .int .u8 0, .int .u8 0, .int .u8 0, .int .u8 0, .int .u8 0, .int .u8 0, .int .u8 0, .int .u8 0, .int .u8 0, .int .u8 0, .int .u8 0, .int .u8 0, .int .u8 0, .int .u8 0, .int .u8 0, .int .u8 0, .int .u8 0, .int .u8 0, .int .u8 0, .int .u8 0, .int .u8 0, .int .u8 0, .int .u8 0, .int .u8 0, .int .u8 0, .int .u8 0, .int .u8 0, .int .u8 0, .int .u8 0, .int .u8 0, .int .u8 0, .slice none 0 0] 64)) := below_alloc (Below.refl _ _) _
  generalize w.alloc (.cells #[.int .i64 0, .int .i64 0, .int .u8 0, .int .u8 0, .int .u8 0, .int .u8 0, .int .u8 0, .int .u8 0, .int .u8 0, .int .u8 0, .int .u8 0, .int .u8 0, .int .u8 0, .int .u8 0, .int .u8 0, .int .u8 0, .int .u8 0, .int .u8 0, .int .u8 0, .int .u8 0, .int .u8 0, .int .u8 0, .int .u8 0, .int .u8 0, .int .u8 0, .int .u8 0, .int .u8 0, .int .u8 0, .int .u8 0, .int .u8 0, .int .u8 0, .int .u8 0, .int .u8 0, .int .u8 0, .slice none 0 0] 64) = W0 at *
  refine (HF1.out W0 (HR.out.below hb0)).mono ?_
  rintro e w1 ⟨rfl, hr1, hk1⟩
  have HR1 := Aside0.mk hr1
  have HK1 := Aside0.mk (keep_then (KeepBut.of_below hb0 g none) hk1)
  have HX1 := Aside0.mk (KeepBut.at_ hk1 hx0 (by omega))
  have HRG := Aside0.mk (show w.heap.size ≠ g by omega)
  clear hb0 hx0 hr1 hk1 HF1 HR
  go_wp2_with fail
  refine (HF2.out w1 HR1.out).mono ?_
  rintro e w2 ⟨rfl, hr2, hk2⟩
  have HR2 := Aside0.mk hr2
  have HK2 := Aside0.mk (keep_then HK1.out hk2)
  have HX2 := Aside0.mk (KeepBut.at_ hk2 HX1.out HRG.out)
  clear hr2 hk2 HF2 HR1 HK1 HX1
  go_wp2_with (refine wpList_store_row rfl 64 (.tmp 5) (.tmp 15) rfl w2.heap.size (HC x1 x2 (fun _ => 0) none 0 0) rfl rfl 64 _ (heap_alloc_new w2 _) (by rw [HC_size]; kernel_rfl) (by rw [HC_size]; rfl) (HC_all _ _ _ _ _ _) ?_; rw [World.setRow_alloc_new])
  have hb3 : Below w2.heap.size w2 (w2.alloc (.cells (HC x1 x2 (fun _ => 0) none 0 0) 64)) := below_alloc (Below.refl _ _) _
  have HR3 := Aside0.mk (HR2.out.below hb3)
  have HK3 := Aside0.mk (KeepBut.below_ HK2.out hb3)
  have HX3 := Aside0.mk ((hb3.block _ (blk_lt HX2.out)).trans HX2.out)
  have HY3 := Aside0.mk (heap_alloc_new w2 (.cells (HC x1 x2 (fun _ => 0) none 0 0) 64))
  have HBW := Aside0.mk (show w.heap.size ≤ w2.heap.size from HK2.out.1)
  have HBG := Aside0.mk (show w2.heap.size ≠ g by have := HK2.out.1; omega)
  have HGB := Aside0.mk (show g < w2.heap.size by have := HK2.out.1; omega)
  have HBX := Aside0.mk (show w.heap.size ≠ w2.heap.size by have := blk_lt HX2.out; omega)
  clear hb3 HR2 HK2 HX2
  generalize w2.alloc (.cells (HC x1 x2 (fun _ => 0) none 0 0) 64) = W3 at *
  generalize w2.heap.size = b5 at *
  refine (HF3.out W3 HR3.out).mono ?_
  rintro e w4 ⟨rfl, hr4, hk4⟩
  have HR4 := Aside0.mk hr4
  have HK4 := Aside0.mk (keep_then HK3.out hk4)
  have HX4 := Aside0.mk (KeepBut.at_ hk4 HX3.out HRG.out)
  have HY4 := Aside0.mk (KeepBut.at_ hk4 HY3.out HBG.out)
  clear hr4 hk4 HF3 HR3 HK3 HX3 HY3
  have HR5 := Aside0.mk (HR4.out.setRow HY4.out (by decide) HGB.out (HC x1 x2 fd none 0 0))
  have HK5 := Aside0.mk (KeepBut.row HK4.out HBW.out (HC x1 x2 fd none 0 0))
  have HX5 := Aside0.mk ((setRow_other w4 b5 w.heap.size (HC x1 x2 fd none 0 0) HBX.out).trans HX4.out)
  have HY5 := Aside0.mk (setRow_heap w4 b5 _ (HC x1 x2 fd none 0 0) _ _ HY4.out)
  go_wp2_with (refine wpList_store_seg rfl 61 (.tmp 18) (.tmp 17) rfl b5 2 (hashCells (HL fd)).toArray rfl rfl 64 _ HY4.out (by rw [hc32_size, HC_size]; decide) (by rw [hc32_size]; kernel_rfl) (hc32_all fd) (HC x1 x2 fd none 0 0) (HC_hash _ _ _ _ _ _) ?_)
  have HSL := Aside0.mk hsl
  generalize w4.setRow b5 (HC x1 x2 fd none 0 0) = W5 at *
  clear hm1 hm2 hwx1 hwx2 HR4 HK4 HX4 HY4 hs hc1 hsl
  go_loopw [21] (fun v21 w' => ∃ (i : Nat) (l : List CH) (q' : St) (A : Option Addr) (c : Nat), i ≤ s.length ∧ v21 = .int .i64 i ∧ Aside0 (Rs w0 w' g s0 q') ∧ Aside0 (KeepBut w w' g none) ∧ Aside0 (w'.heap[w.heap.size]? = some (.cells (HC 0 0 (fun _ => 0) none 0 0) 64 (0, 0))) ∧ Aside0 (w'.heap[b5]? = some (.cells (HC x1 x2 fd A l.length c) 64 (0, 0))) ∧ Aside0 (Kd.R kCH 72 w' w.heap.size (fun _ => True) (.slice A l.length c) l) ∧ Aside0 (l.length ≤ i) ∧ Aside0 (chsQ s0 (s.length - i) l q' = chsQ s0 s.length [] q3)) (fun i _ => s.length - (intOf i).toNat)
  case atStart => exact ⟨0, [], q3, none, 0, Nat.zero_le _, rfl, HR5, HK5, HX5, HY5, ⟨Kd.R_nil _ _ _ _ _⟩, ⟨Nat.le_refl _⟩, ⟨rfl⟩⟩
  case round =>
    obtain ⟨i, l, q', A, c, hi, rfl, HRr, HKr, HXr, HYr, HVr, HLN, HQ⟩ := hrel
    by_cases hlt2 : i < s.length
    · have hst := chs_step (s0 := s0) (n := s.length - (i + 1)) (l := l) (q := q')
      rw [show s.length - (i + 1) + 1 = s.length - i by omega, HQ.out] at hst
      unfold chQ at hst
      dsimp only at hst
      have hF := fun W (H : Rs w0 W g s0 q') => qZone w0 W g s0 q' H
      have hzi := zoneQ_in HRr.out.inn
      obtain ⟨z, qz, hkq⟩ : ∃ k qz, zoneQ s0 q' = (k, qz) := ⟨_, _, rfl⟩
      rw [hkq] at hst hzi
      simp only [hkq] at hF
      dsimp only at hst hzi
      have hl3 := hashQ_len hzi
      have hF2 := fun W (H : Rs w0 W g s0 qz) => qHash w0 W g s0 qz H
      obtain ⟨d4, q4, hkq2⟩ : ∃ k q4, hashQ s0 qz = (k, q4) := ⟨_, _, rfl⟩
      rw [hkq2] at hst hl3
      simp only [hkq2] at hF2
      dsimp only at hst hl3
      obtain ⟨f, rfl⟩ : ∃ f, d4 = HL f := ⟨_, range_fn d4 hl3⟩
      have HST := Aside0.mk hst
      have HFZ := Aside0.mk (hF wr HRr.out)
      have HFH := Aside0.mk hF2
      clear hst hF hF2 hkq hkq2 hl3 hzi HQ
      go_wp2_with fail
      refine HFZ.out.mono ?_
      rintro e wz ⟨rfl, hrz, hkz⟩
      have HRz := Aside0.mk hrz
      have HKz := Aside0.mk (keep_then HKr.out hkz)
      have HXz := Aside0.mk (KeepBut.at_ hkz HXr.out HRG.out)
      have HYz := Aside0.mk (KeepBut.at_ hkz HYr.out HBG.out)
      have HVz := Aside0.mk (R_past HVr.out hlt hkz)
      clear hrz hkz HFZ
      go_wp2_with (refine wpList_store_row rfl 70 (.tmp 6) (.tmp 24) rfl wz.heap.size (zCells z).toArray rfl rfl 70 _ (heap_alloc_new wz _) (by kernel_rfl) rfl (zCells_all z) ?_; rw [World.setRow_alloc_new])
      have hb5 : Below wz.heap.size wz (wz.alloc (.cells (zCells z).toArray 70)) := below_alloc (Below.refl _ _) _
      have HRe := Aside0.mk (HRz.out.below hb5)
      have HKe := Aside0.mk (KeepBut.below_ HKz.out hb5)
      have HXe := Aside0.mk ((hb5.block _ (blk_lt HXz.out)).trans HXz.out)
      have HYe := Aside0.mk ((hb5.block _ (blk_lt HYz.out)).trans HYz.out)
      have HZe := Aside0.mk (heap_alloc_new wz (.cells (zCells z).toArray 70))
      have HVe := Aside0.mk (Kd.R_below HVz.out hb5)
      have HZG := Aside0.mk (show wz.heap.size ≠ g by have := HKz.out.1; omega)
      clear hb5 HRz HKz HXz HYz HVz
      generalize wz.alloc (.cells (zCells z).toArray 70) = W5 at *
      generalize wz.heap.size = zb at *
      have HR6 : Aside0 (Rs w0 W5.drew g s0 qz) := Aside0.mk (HRe.out.below (below_drew (Below.refl _ _)))
      have HK6 : Aside0 (KeepBut w W5.drew g none) := Aside0.mk (KeepBut.below_ HKe.out (below_drew (Below.refl _ _)))
      have HX6 : Aside0 (W5.drew.heap[w.heap.size]? = _) := Aside0.mk HXe.out
      have HY6 : Aside0 (W5.drew.heap[b5]? = _) := Aside0.mk HYe.out
      have HZ6 : Aside0 (W5.drew.heap[zb]? = _) := Aside0.mk HZe.out
      have HV6 : Aside0 (Kd.R kCH 72 W5.drew w.heap.size (fun _ => True) (.slice A l.length c) l) := Aside0.mk (Kd.R_below HVe.out (below_drew (Below.refl _ _)))
      have p34 : W5.drew.cell? ⟨b5, 34, none⟩ = some (.slice A l.length c) := (blk_cell HY6.out 34).trans (HC_34 _ _ _ _ _ _)
      have z0 := (blk_cell HZ6.out 0).trans (show (zCells z).toArray[0]? = some (.int .i64 z.f0) from rfl)
      have z1 := (blk_cell HZ6.out 1).trans (show (zCells z).toArray[1]? = some (.bool z.f1) from rfl)
      have z2 := (blk_cell HZ6.out 2).trans (show (zCells z).toArray[2]? = some (.int .i64 z.f2.f0) from rfl)
      have z3 := (blk_cell HZ6.out 3).trans (show (zCells z).toArray[3]? = some (.int .i64 z.f2.f1) from rfl)
      have z4 := (blk_cell HZ6.out 4).trans (show (zCells z).toArray[4]? = some (.string z.f2.f2) from rfl)
      have z5 := (blk_cell HZ6.out 5).trans (show (zCells z).toArray[5]? = some (.int .i64 z.f3.f0) from rfl)
      have z6 := (blk_cell HZ6.out 6).trans (show (zCells z).toArray[6]? = some (.int .i64 z.f3.f1) from rfl)
      have z7 := (blk_cell HZ6.out 7).trans (show (zCells z).toArray[7]? = some (.string z.f3.f2) from rfl)
      go_wp2_with fail
      refine start_ (n := 10) (S := fun w' => w'.cell? ⟨b5, 34, none⟩ = some (.slice A l.length c) ∧ w'.cell? ⟨zb, 0, none⟩ = some (.int .i64 z.f0) ∧ w'.cell? ⟨zb, 1, none⟩ = some (.bool z.f1) ∧ w'.cell? ⟨zb, 2, none⟩ = some (.int .i64 z.f2.f0) ∧ w'.cell? ⟨zb, 3, none⟩ = some (.int .i64 z.f2.f1) ∧ w'.cell? ⟨zb, 4, none⟩ = some (.string z.f2.f2) ∧ w'.cell? ⟨zb, 5, none⟩ = some (.int .i64 z.f3.f0) ∧ w'.cell? ⟨zb, 6, none⟩ = some (.int .i64 z.f3.f1) ∧ w'.cell? ⟨zb, 7, none⟩ = some (.string z.f3.f2)) (ds := [9]) #[false, false, false, false, false, false, false, false, false, false] (by kernel_rfl) rfl rfl ⟨p34, z0, z1, z2, z3, z4, z5, z6, z7⟩ (fun hHeld => ?_)
      generalize W5.drew = W6 at *
      refine pure_ (i := 0) (N := some 25) (v := ?_) (a' := ?_) #[true, false, false, false, false, false, false, false, false, false] rfl rfl (by kernel_rfl) (fun _ _ _ h => h) (Or.inl ⟨by rfl, ?_⟩) ?_ ?_
      rotate_left
      · intro w'
        go_simp
        with_reducible rfl
      rotate_left
      · simp only [Act.put, List.setIfInBounds_toArray, List.set_cons_zero, List.set_cons_succ, i64_w, i32_w]
        rfl
      refine pure_ (i := 3) (N := some 28) (v := ?_) (a' := ?_) #[true, false, false, true, false, false, false, false, false, false] rfl rfl (by kernel_rfl) (fun _ _ _ h => h) (Or.inl ⟨by rfl, ?_⟩) ?_ ?_
      rotate_left
      · intro w'
        go_simp
        with_reducible rfl
      rotate_left
      · simp only [Act.put, List.setIfInBounds_toArray, List.set_cons_zero, List.set_cons_succ, i64_w, i32_w]
        rfl
      refine take_ (i := 1) (N := some 26) (v := ?_) (a' := ?_) #[true, true, false, true, false, false, false, false, false, false] rfl rfl (by kernel_rfl) (fun _ _ _ h => h) (Or.inl ⟨by rfl, ?_⟩) hHeld ?_ ?_
      rotate_left
      · rintro w' ⟨s0, s1, s2, s3, s4, s5, s6, s7, s8⟩
        go_simp
        with_reducible rfl
      rotate_left
      · simp only [Act.put, List.setIfInBounds_toArray, List.set_cons_zero, List.set_cons_succ, i64_w, i32_w]
        rfl
      refine take_ (i := 2) (N := some 27) (v := ?_) (a' := ?_) #[true, true, true, true, false, false, false, false, false, false] rfl rfl (by kernel_rfl) (fun _ _ _ h => h) (Or.inl ⟨by rfl, ?_⟩) hHeld ?_ ?_
      rotate_left
      · rintro w' ⟨s0, s1, s2, s3, s4, s5, s6, s7, s8⟩
        go_simp
        with_reducible rfl
      rotate_left
      · simp only [Act.put, List.setIfInBounds_toArray, List.set_cons_zero, List.set_cons_succ, i64_w, i32_w]
        rfl
      refine one_ (i := 4) (N := some 29) #[true, true, true, true, true, false, false, false, false, false] rfl rfl (by kernel_rfl) (by decide) (fun K hK => ?_)
      refine goes_ Tryz.func121 (by kernel_rfl) rfl #[.pointer (some ⟨g, 0, none⟩)] (by rfl) rfl rfl (by simp only [List.map_toArray, List.map_cons, List.map_nil]; rfl) ?_
      with_reducible refine (HFH.out W6 HR6.out).mono ?_
      rintro e w7 ⟨rfl, hr, hk⟩
      refine ⟨_, rfl, ?_⟩
      have HR7 := Aside0.mk hr
      have HK7 := Aside0.mk (keep_then HK6.out hk)
      have HX7 := Aside0.mk (KeepBut.at_ hk HX6.out HRG.out)
      have HY7 := Aside0.mk (KeepBut.at_ hk HY6.out HBG.out)
      have HZ7 := Aside0.mk (KeepBut.at_ hk HZ6.out HZG.out)
      have HV7 := Aside0.mk (R_past HV6.out hlt hk)
      clear hr hk
      refine hK.out _ _ ⟨(blk_cell HY7.out 34).trans (HC_34 _ _ _ _ _ _), blk_cell HZ7.out 0, blk_cell HZ7.out 1, blk_cell HZ7.out 2, blk_cell HZ7.out 3, blk_cell HZ7.out 4, blk_cell HZ7.out 5, blk_cell HZ7.out 6, blk_cell HZ7.out 7⟩ (fun hHeld => ?_)
      clear hK K
      refine norm_ (a' := ?_) ?_ ?_
      rotate_left
      · show Act.put _ (some 29) _ = _
        simp only [Act.put, List.setIfInBounds_toArray, List.set_cons_zero, List.set_cons_succ, i64_w, i32_w]
        rfl
      refine pure_ (i := 5) (N := some 30) (v := ?_) (a' := ?_) #[true, true, true, true, true, true, false, false, false, false] rfl rfl (by kernel_rfl) (fun _ _ _ h => h) (Or.inl ⟨by rfl, ?_⟩) ?_ ?_
      rotate_left
      · intro w'
        show _ = Result.ok (Next.value (Value.agg (chCells z f).toArray)) w'
        kernel_rfl
      rotate_left
      · simp only [Act.put, List.setIfInBounds_toArray, List.set_cons_zero, List.set_cons_succ, i64_w, i32_w]
        rfl
      refine one_ (i := 6) (N := some 31) #[true, true, true, true, true, true, true, false, false, false] rfl rfl (by kernel_rfl) (by decide) (fun K hK => ?_)
      refine value_ (w1 := ?_) (v := ?_) (by rfl) rfl ?_ ?_
      rotate_left 2
      · show _ = Result.ok (Next.value (Value.slice (some ⟨w7.heap.size, 0, none⟩) 1 1)) (w7.alloc (.cells (chCells z f).toArray 72))
        kernel_rfl
      have hba : Below w7.heap.size w7 (w7.alloc (.cells (chCells z f).toArray 72)) := below_alloc (Below.refl _ _) _
      have HBA := Aside0.mk hba
      clear hba
      refine hK.out _ _ ⟨pw_cell_below HBA.out ((blk_cell HY7.out 34).trans (HC_34 _ _ _ _ _ _)), pw_cell_below HBA.out (blk_cell HZ7.out 0), pw_cell_below HBA.out (blk_cell HZ7.out 1), pw_cell_below HBA.out (blk_cell HZ7.out 2), pw_cell_below HBA.out (blk_cell HZ7.out 3), pw_cell_below HBA.out (blk_cell HZ7.out 4), pw_cell_below HBA.out (blk_cell HZ7.out 5), pw_cell_below HBA.out (blk_cell HZ7.out 6), pw_cell_below HBA.out (blk_cell HZ7.out 7)⟩ (fun hHeld => ?_)
      clear hK K
      refine norm_ (a' := ?_) ?_ ?_
      rotate_left
      · show Act.put _ (some 31) _ = _
        simp only [Act.put, List.setIfInBounds_toArray, List.set_cons_zero, List.set_cons_succ, i64_w, i32_w]
        rfl
      refine one_ (i := 7) (N := some 32) #[true, true, true, true, true, true, true, true, false, false] rfl rfl (by kernel_rfl) (by decide) (fun K hK => ?_)
      refine Kd.R_append_step kCH (w0 := w7) w.heap.size (by rfl) (.tmp 26) (.tmp 31) 62 72 (.agg (chCells z70 (fun _ => 0)).toArray) 112 rfl Tryz.underlying62 (by kernel_rfl) (by kernel_rfl) (by decide) (by decide) (.slice A l.length c) l ⟨z, HL f⟩ (chCells z f) (fun _ => True) (fun _ => False) rfl rfl ⟨_, _, rfl, k70_mkM _ _ _ _, rfl, HL_len f⟩ (fun _ h => h.elim) (fun _ _ => trivial) HV7.out (Below.refl _ _) HK7.out.1 (by have := HLN.out; have := HSL.out; omega) ?_
      intro v8 w8 ho _ hg2 _
      have HR8 := Aside0.mk (HR7.out.grown HV7.out hlt HK7.out.1 (by decide) hg2)
      have HK8 := Aside0.mk (KeepBut.grown HK7.out HV7.out (Nat.le_refl _) hg2)
      have HX8 := Aside0.mk ((hg2.block _ (blk_lt HX7.out) (Kd.R_ne HV7.out HX7.out (by decide))).trans HX7.out)
      have HY8 := Aside0.mk ((hg2.block _ (blk_lt HY7.out) (Kd.R_ne HV7.out HY7.out (by decide))).trans HY7.out)
      have HZ8 := Aside0.mk ((hg2.block _ (blk_lt HZ7.out) (Kd.R_ne HV7.out HZ7.out (by decide))).trans HZ7.out)
      obtain ⟨A8, c8, e8⟩ := Kd.R_slice ho
      obtain ⟨n9, hn9⟩ : ∃ n9, n9 = (l ++ [(⟨z, HL f⟩ : CH)]).length := ⟨_, rfl⟩
      rw [← hn9] at e8
      subst e8
      have HN9 := Aside0.mk hn9
      have HV8 := Aside0.mk ho
      have q34 : w8.cell? ⟨b5, 34, none⟩ = some (.slice A l.length c) := (blk_cell HY8.out 34).trans (HC_34 _ _ _ _ _ _)
      have qf := blk_frozen HY8.out 34
      clear ho hg2 hn9
      refine hK.out _ _ ⟨(blk_cell HY8.out 34).trans (HC_34 _ _ _ _ _ _), blk_cell HZ8.out 0, blk_cell HZ8.out 1, blk_cell HZ8.out 2, blk_cell HZ8.out 3, blk_cell HZ8.out 4, blk_cell HZ8.out 5, blk_cell HZ8.out 6, blk_cell HZ8.out 7⟩ (fun hHeld => ?_)
      clear hK K
      refine norm_ (a' := ?_) ?_ ?_
      rotate_left
      · show Act.put _ (some 32) _ = _
        simp only [Act.put, List.setIfInBounds_toArray, List.set_cons_zero, List.set_cons_succ, i64_w, i32_w]
        rfl
      refine pure_ (i := 8) (N := some 33) (v := ?_) (a' := ?_) #[true, true, true, true, true, true, true, true, true, false] rfl rfl (by kernel_rfl) (fun _ _ _ h => h) (Or.inl ⟨by rfl, ?_⟩) ?_ ?_
      rotate_left
      · intro w'
        go_simp
        with_reducible rfl
      rotate_left
      · simp only [Act.put, List.setIfInBounds_toArray, List.set_cons_zero, List.set_cons_succ, i64_w, i32_w]
        rfl
      refine last_ (i := 9) (N := none) #[true, true, true, true, true, true, true, true, true, true] rfl rfl (by kernel_rfl) (by decide) (fun K hK => ?_)
      refine skip_ (w1 := ?_) (by rfl) rfl ?_ ?_
      rotate_left
      · go_simp
        rfl
      refine hK.out _ _ ?_
      clear hK K
      refine done_ (by kernel_rfl) ?_
      have HR9 := Aside0.mk (HR8.out.setCell HY8.out (by decide) HGB.out 34 (.slice A8 n9 c8))
      have HK9 := Aside0.mk (KeepBut.cell HK8.out HBW.out 34 (.slice A8 n9 c8))
      have HX9 := Aside0.mk ((Below.heap_setCell w8 ⟨b5, 34, none⟩ (.slice A8 n9 c8) w.heap.size HBX.out).trans HX8.out)
      have HY9 : Aside0 ((w8.setCell ⟨b5, 34, none⟩ (.slice A8 n9 c8)).heap[b5]? = some (.cells (HC x1 x2 fd A8 n9 c8) 64 (0, 0))) := Aside0.mk (by rw [setCell_eq_setRow _ _ _ _ _ _ _ HY8.out]; exact (setRow_heap _ _ _ _ _ _ HY8.out).trans (by rw [HC_set]))
      have HV9 := Aside0.mk (Kd.R_set HV8.out HY8.out (by decide) 34 (.slice A8 n9 c8))
      generalize w8.setCell ⟨b5, 34, none⟩ (.slice A8 n9 c8) = w9 at *
      go_wp2_with fail
      refine (qGood2 w0 w9 g s0 q4 HR9.out).mono ?_
      rintro e wa ⟨rfl, hb⟩
      have HRa := Aside0.mk (HR9.out.below hb)
      have HKa := Aside0.mk (KeepBut.below_ HK9.out hb)
      have HXa := Aside0.mk ((hb.block _ (blk_lt HX9.out)).trans HX9.out)
      have HYa := Aside0.mk ((hb.block _ (blk_lt HY9.out)).trans HY9.out)
      have HVa := Aside0.mk (Kd.R_below HV9.out hb)
      clear hb
      by_cases hz : q4.2.1 = 0
      · have hg : (q4.2.1 == 0) = true := by simpa using hz
        have HE := Aside0.mk (HST.out.2 hz)
        clear hz
        obtain rfl := HN9.out
        have hsl2 := HSL.out
        go_wp2
        go_roundw
        case rel => exact ⟨i + 1, _, q4, A8, c8, by omega, by go_num, HRa, HKa, HXa, HYa, HVa, ⟨by have := HLN.out; rw [List.length_append, List.length_singleton]; omega⟩, ⟨HE.out.symm⟩⟩
        case measure => simp [intOf]; omega
      · have hg : (q4.2.1 == 0) = false := beq_eq_false_iff_ne.2 hz
        have e := HRES.out
        rw [HST.out.1 hz, failQ_err hz, if_neg hz] at e
        have HRR := Aside0.mk e
        clear hz e
        go_wp2_with (refine wpList_store_row rfl 64 (.tmp 4) (.tmp 37) rfl w.heap.size (HC 0 0 (fun _ => 0) none 0 0) rfl rfl 64 _ HXa.out (by rw [HC_size]; kernel_rfl) rfl (HC_all _ _ _ _ _ _) ?_)
        rw [setRow_self wa w.heap.size _ _ _ HXa.out]
        refine bodyPost_ret (v := .agg (HC 0 0 (fun _ => 0) none 0 0)) (results_cell_row rfl _ _ w.heap.size 64 (HC 0 0 (fun _ => 0) none 0 0) (0, 0) _ rfl HXa.out Tryz.underlying64 rfl (by rw [HC_size]; kernel_rfl)) rfl ?_
        rw [HRR.out, HC_z]
        exact ⟨none, 0, rfl, Nat.le_refl _, Kd.R_nil _ _ _ _ _, HRa.out, HKa.out⟩
    · obtain rfl : i = s.length := by omega
      have e := HQ.out
      rw [Nat.sub_self, chsQ] at e
      rw [← e] at HRES
      dsimp only at HRES
      clear e HQ
      go_wp2_with fail
      refine (qGood2 w0 wr g s0 q' HRr.out).mono ?_
      rintro e wa ⟨rfl, hb⟩
      have HRa := Aside0.mk (HRr.out.below hb)
      have HKa := Aside0.mk (KeepBut.below_ HKr.out hb)
      have HXa := Aside0.mk ((hb.block _ (blk_lt HXr.out)).trans HXr.out)
      have HYa := Aside0.mk ((hb.block _ (blk_lt HYr.out)).trans HYr.out)
      have HVa := Aside0.mk (Kd.R_below HVr.out hb)
      clear hb
      by_cases hz : q'.2.1 = 0
      · have hg : (q'.2.1 == 0) = true := by simpa using hz
        have HZ := Aside0.mk hz
        clear hz
        have HRD := Aside0.mk (Kd.R_reads' HVa.out)
        obtain ⟨sb, hsb⟩ : ∃ sb, sb = soundP ⟨x1, x2, HL fd, l⟩ s := ⟨_, rfl⟩
        rw [← hsb] at HRES
        have hS := sound_calls ⟨x1, x2, HL fd, l⟩ A c A1 c1 s wa (HL_len fd) HRD.out.2.1 HRD.out.2.2 (HS.out wa HKa.out) HC1.out
        rw [← hsb] at hS
        have HSO := Aside0.mk hS
        clear hS hsb
        go_wp2_with (first | (refine gate_guard (by rfl) ?_; dsimp only; refine wpList_load_row rfl 64 (.tmp 5) rfl b5 rfl 64 (HC x1 x2 fd A l.length c) (0, 0) _ HYa.out Tryz.underlying64 rfl (by rw [HC_size]; kernel_rfl) ?_) | fail)
        refine HSO.out.mono ?_
        rintro e wb ⟨rfl, hb⟩
        have HRb := Aside0.mk (HRa.out.below hb)
        have HKb := Aside0.mk (KeepBut.below_ HKa.out hb)
        have HXb := Aside0.mk ((hb.block _ (blk_lt HXa.out)).trans HXa.out)
        have HYb := Aside0.mk ((hb.block _ (blk_lt HYa.out)).trans HYa.out)
        have HVb := Aside0.mk (Kd.R_below HVa.out hb)
        clear hb
        cases sb with
        | true =>
          have e := HRES.out
          rw [if_pos rfl, failQ_zero, if_pos HZ.out] at e
          have HRR := Aside0.mk e
          clear e
          go_wp2_with fail
          refine (qGood2 w0 wb g s0 q' HRb.out).mono ?_
          rintro e wd ⟨rfl, hb⟩
          have HRd := Aside0.mk (HRb.out.below hb)
          have HKd := Aside0.mk (KeepBut.below_ HKb.out hb)
          have HXd := Aside0.mk ((hb.block _ (blk_lt HXb.out)).trans HXb.out)
          have HYd := Aside0.mk ((hb.block _ (blk_lt HYb.out)).trans HYb.out)
          have HVd := Aside0.mk (Kd.R_below HVb.out hb)
          clear hb
          have HW1 := Aside0.mk (setRow_heap wd w.heap.size _ (HC x1 x2 fd A l.length c) _ _ HXd.out)
          go_wp2_with (first | (refine wpList_load_row rfl 64 (.tmp 5) rfl b5 rfl 64 (HC x1 x2 fd A l.length c) (0, 0) _ HYd.out Tryz.underlying64 rfl (by rw [HC_size]; kernel_rfl) ?_) | (refine wpList_store_row rfl 64 (.tmp 4) (.tmp 53) rfl w.heap.size (HC x1 x2 fd A l.length c) rfl rfl 64 _ HXd.out (by rw [HC_size]; kernel_rfl) (by rw [HC_size, HC_size]) (HC_all _ _ _ _ _ _) ?_))
          refine bodyPost_ret (v := .agg (HC x1 x2 fd A l.length c)) (results_cell_row rfl _ _ w.heap.size 64 (HC x1 x2 fd A l.length c) (0, 0) _ rfl HW1.out Tryz.underlying64 rfl (by rw [HC_size]; kernel_rfl)) rfl ?_
          rw [HRR.out, HC_hd]
          exact ⟨A, c, rfl, (Kd.R_reads' HVd.out).2.1, Kd.R_step (Kd.R_types HVd.out HXd.out (by decide)) (fun k hk _ => setRow_other wd w.heap.size k _ hk.2) |>.imp (fun h k hk => (h k hk).1) id, HRd.out.setRow HXd.out (by decide) hlt _, KeepBut.row HKd.out (Nat.le_refl _) _⟩
        | false =>
          have hne := failQ_ne (e := 4) q' (by decide)
          have e : r = (if (failQ 4 q').2.1 = 0 then ⟨x1, x2, HL fd, l⟩ else zHead, failQ 4 q') := HRES.out
          rw [if_neg hne] at e
          have HRR := Aside0.mk e
          have HF4 := Aside0.mk (qFail 4 w0 wb g s0 q' HRb.out)
          generalize failQ 4 q' = qf at *
          have hg2 : (qf.2.1 == 0) = false := beq_eq_false_iff_ne.2 hne
          clear e hne
          go_wp2_with fail
          refine HF4.out.mono ?_
          rintro e wc ⟨rfl, hr, hk⟩
          have HRc := Aside0.mk hr
          have HKc := Aside0.mk (keep_then HKb.out hk)
          have HXc := Aside0.mk (KeepBut.at_ hk HXb.out HRG.out)
          have HYc := Aside0.mk (KeepBut.at_ hk HYb.out HBG.out)
          have HVc := Aside0.mk (R_past HVb.out hlt hk)
          clear hr hk
          go_wp2_with fail
          refine (qGood2 w0 wc g s0 qf HRc.out).mono ?_
          rintro e wd ⟨rfl, hb⟩
          have HRd := Aside0.mk (HRc.out.below hb)
          have HKd := Aside0.mk (KeepBut.below_ HKc.out hb)
          have HXd := Aside0.mk ((hb.block _ (blk_lt HXc.out)).trans HXc.out)
          have HYd := Aside0.mk ((hb.block _ (blk_lt HYc.out)).trans HYc.out)
          have HVd := Aside0.mk (Kd.R_below HVc.out hb)
          clear hb
          go_wp2_with (refine wpList_store_row rfl 64 (.tmp 4) (.tmp 52) rfl w.heap.size (HC 0 0 (fun _ => 0) none 0 0) rfl rfl 64 _ HXd.out (by rw [HC_size]; kernel_rfl) rfl (HC_all _ _ _ _ _ _) ?_)
          rw [setRow_self wd w.heap.size _ _ _ HXd.out]
          refine bodyPost_ret (v := .agg (HC 0 0 (fun _ => 0) none 0 0)) (results_cell_row rfl _ _ w.heap.size 64 (HC 0 0 (fun _ => 0) none 0 0) (0, 0) _ rfl HXd.out Tryz.underlying64 rfl (by rw [HC_size]; kernel_rfl)) rfl ?_
          rw [HRR.out, HC_z]
          exact ⟨none, 0, rfl, Nat.le_refl _, Kd.R_nil _ _ _ _ _, HRd.out, HKd.out⟩
      · have hg : (q'.2.1 == 0) = false := beq_eq_false_iff_ne.2 hz
        have e := HRES.out
        rw [failQ_err hz, if_neg hz] at e
        have HRR := Aside0.mk e
        clear hz e
        go_wp2_with fail
        refine (qGood2 w0 wa g s0 q' HRa.out).mono ?_
        rintro e wd ⟨rfl, hb⟩
        have HRd := Aside0.mk (HRa.out.below hb)
        have HKd := Aside0.mk (KeepBut.below_ HKa.out hb)
        have HXd := Aside0.mk ((hb.block _ (blk_lt HXa.out)).trans HXa.out)
        have HYd := Aside0.mk ((hb.block _ (blk_lt HYa.out)).trans HYa.out)
        have HVd := Aside0.mk (Kd.R_below HVa.out hb)
        clear hb
        go_wp2_with (refine wpList_store_row rfl 64 (.tmp 4) (.tmp 52) rfl w.heap.size (HC 0 0 (fun _ => 0) none 0 0) rfl rfl 64 _ HXd.out (by rw [HC_size]; kernel_rfl) rfl (HC_all _ _ _ _ _ _) ?_)
        rw [setRow_self wd w.heap.size _ _ _ HXd.out]
        refine bodyPost_ret (v := .agg (HC 0 0 (fun _ => 0) none 0 0)) (results_cell_row rfl _ _ w.heap.size 64 (HC 0 0 (fun _ => 0) none 0 0) (0, 0) _ rfl HXd.out Tryz.underlying64 rfl (by rw [HC_size]; kernel_rfl)) rfl ?_
        rw [HRR.out, HC_z]
        exact ⟨none, 0, rfl, Nat.le_refl _, Kd.R_nil _ _ _ _ _, HRd.out, HKd.out⟩
end Go.Proofs.YtjmhiklmlgbifaaGreatDoor.PMan
end

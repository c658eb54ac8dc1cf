/- Texts, put into one. -/
import Derived.Test.YtjmhiklmlgbifaaGreatDoorPT29
import Derived.Test.YtjmhiklmlgbifaaGreatDoorPTW
set_option linter.unusedVariables false
set_option linter.unusedSimpArgs false
open Go Go.RowKit Go.Proofs.YtjmhiklmlgbifaaGreatDoorW.PrintWords Go.Proofs.YtjmhiklmlgbifaaGreatDoorW.PrintLast Go.Proofs.YtjmhiklmlgbifaaGreatDoorW.PrintMore
namespace Go.Proofs.YtjmhiklmlgbifaaGreatDoor.PMan
section
attribute [local go_sem] max2_int min2_int max_two min_two
def ET (x : List Int) (n : Int) (y : List Int) : Array Value := (enCells ⟨x, n, y⟩).toArray
theorem ET_zero : Tryz.zeroCells81 = ET zH 0 zH := by kernel_rfl
theorem ET_size (x : List Int) (n : Int) (y : List Int) (hx : x.length = 32) (hy : y.length = 32) : (ET x n y).size = 65 := by
 unfold ET enCells
 rw [List.size_toArray, List.length_append, List.length_cons, hashCells_length, hashCells_length, hx, hy]
theorem ET_all (x : List Int) (n : Int) (y : List Int) : (ET x n y).all (·.oneCell') = true := by
 unfold ET
 rw [List.all_toArray]
 exact List.all_eq_true.2 (fun v hv => by
  rcases List.mem_append.1 hv with h | h
  ·exact hash_one _ v h
  ·rcases List.mem_cons.1 h with rfl | h
   ·rfl
   ·exact hash_one _ v h)
theorem ET_32 (x : List Int) (n : Int) (y : List Int) (hx : x.length = 32) : (ET x n y)[32]? = some (.int .i64 n) := by
 unfold ET enCells
 rw [List.getElem?_toArray, List.getElem?_append_right (by rw [hashCells_length, hx]; decide), hashCells_length, hx]
 rfl
theorem ET_set (x : List Int) (n m : Int) (y : List Int) (hx : x.length = 32) : (ET x n y).setIfInBounds 32 (.int .i64 m) = ET x m y := by
 unfold ET enCells
 rw [List.setIfInBounds_toArray, List.set_append_right _ _ (by rw [hashCells_length, hx]; decide), hashCells_length, hx]
 rfl
theorem ET_cut1 (l x y : List Int) (n : Int) (h : (l.length = 32 ∧ x = l) ∨ (l = [] ∧ x = zH)) : ((ET zH n y).toList.take 0 ++ hashCells l ++ (ET zH n y).toList.drop (0 + l.length)).toArray = ET x n y := by
 rcases h with ⟨h, rfl⟩ | ⟨rfl, rfl⟩
 ·unfold ET enCells
  dsimp only
  rw [List.take_zero, List.nil_append, Nat.zero_add, h, List.drop_append_of_le_length (by rw [hashCells_length]; decide), List.drop_eq_nil_of_le (by rw [hashCells_length]; decide), List.nil_append]
 ·unfold ET
  show ([] ++ [] ++ List.drop 0 _).toArray = _
  rw [List.drop_zero, List.append_nil, List.nil_append, List.toList_toArray]
theorem ET_cut2 (l x y : List Int) (n : Int) (hx : x.length = 32) (h : (l.length = 32 ∧ y = l) ∨ (l = [] ∧ y = zH)) : ((ET x n zH).toList.take 33 ++ hashCells l ++ (ET x n zH).toList.drop (33 + l.length)).toArray = ET x n y := by
 have e : ∀ y : List Int, enCells ⟨x, n, y⟩ = (hashCells x ++ [.int .i64 n]) ++ hashCells y := fun y => by unfold enCells; simp
 have hl : (hashCells x ++ [Value.int .i64 n]).length = 33 := by rw [List.length_append, hashCells_length, hx]; rfl
 have ht : (ET x n zH).toList.take 33 = hashCells x ++ [.int .i64 n] := by
  unfold ET
  rw [List.toList_toArray, e, List.take_append_of_le_length (by rw [hl]; decide), List.take_of_length_le (by rw [hl]; decide)]
 have hd : ∀ k, (ET x n zH).toList.drop (33 + k) = (hashCells zH).drop k := fun k => by
  unfold ET
  rw [List.toList_toArray, e, ← hl, List.drop_append, List.drop_eq_nil_of_le (by omega), List.nil_append, Nat.add_sub_cancel_left]
 rw [ht, hd]
 unfold ET
 rw [e]
 rcases h with ⟨h, rfl⟩ | ⟨rfl, rfl⟩
 ·rw [List.drop_eq_nil_of_le (by rw [hashCells_length, h]; decide), List.append_nil]
 ·rw [List.length_nil, List.drop_zero]
  show (hashCells x ++ [Value.int .i64 n] ++ [] ++ hashCells zH).toArray = _
  rw [List.append_nil]
theorem hashQ_is {s0 : List Int} {q : St} (h : In s0 q) : ((takeQ s0 32 q).1.length = 32 ∧ (hashQ s0 q).1 = (takeQ s0 32 q).1) ∨ ((takeQ s0 32 q).1 = [] ∧ (hashQ s0 q).1 = zH) := by
 unfold hashQ
 dsimp only
 rcases takeQ_len 32 (by decide) h with ⟨h1, h2⟩ | ⟨h1, h2⟩
 ·exact .inl ⟨h1, by rw [if_pos h2]⟩
 ·exact .inr ⟨h1, by rw [if_neg h2]⟩
set_option maxHeartbeats 8000000 in
set_option maxRecDepth 100000 in
theorem qEnt (w0 w : World) (g : Nat) (s0 : List Int) (q : St) (h : Rs w0 w g s0 q) :
  Calls Tryz.prog 95 #[.pointer (some ⟨g, 0, none⟩)] w fun e w' => e = .returned (.agg (enCells (entQ s0 q).1).toArray) ∧ Rs w0 w' g s0 (entQ s0 q).2 ∧ KeepBut w w' g none := by
 have HR := am h
 have hlt := h.lt
 have hi := h.inn
 obtain ⟨r, hr⟩ : ∃ r, r = entQ s0 q := ⟨_, rfl⟩
 rw [← hr]
 unfold entQ entR at hr
 -- the first digest
 have h1 := hashQ_is hi
 have hl1 := hashQ_len hi
 have hi1 := hashQ_in hi
 have hq1 : (hashQ s0 q).2 = (takeQ s0 32 q).2 := rfl
 have hF := fun W (H : Rs w0 W g s0 q) => qTake 32 (by decide) w0 W g s0 q H
 obtain ⟨x1, hx1⟩ : ∃ x, (hashQ s0 q).1 = x := ⟨_, rfl⟩
 obtain ⟨q1, hq⟩ : ∃ x, (hashQ s0 q).2 = x := ⟨_, rfl⟩
 rw [hx1] at hr h1 hl1
 rw [hq] at hr hi1 hq1
 simp only [← hq1] at hF
 obtain ⟨l1, hl⟩ : ∃ x, (takeQ s0 32 q).1 = x := ⟨_, rfl⟩
 rw [hl] at h1
 simp only [hl] at hF
 have HF1 := am hF
 have HFIN1 := am (ET_cut1 l1 x1 zH 0 h1)
 have HLE1 := am (show l1.length ≤ 32 by rcases h1 with ⟨h, _⟩ | ⟨h, _⟩ <;> simp [h])
 have HL1 := am hl1
 have HSZ1 := am (ET_size zH 0 zH rfl rfl)
 clear h1 hF hl hq hq1 hx1
 -- the number
 have hvr := varQ_range hi1
 have hF := fun W (H : Rs w0 W g s0 q1) => qVar w0 W g s0 q1 H
 have hi2 := varQ_in hi1
 obtain ⟨v, q2, hkq⟩ : ∃ k q2, varQ s0 q1 = (k, q2) := ⟨_, _, rfl⟩
 rw [hkq] at hr hvr hi2
 simp only [hkq] at hF
 dsimp only at hr hvr hi2
 have HFV := am hF
 clear hF hkq hi1 hi
 -- the second digest
 have h1 := hashQ_is hi2
 have hl3 := hashQ_len hi2
 have hq1 : (hashQ s0 q2).2 = (takeQ s0 32 q2).2 := rfl
 have hF := fun W (H : Rs w0 W g s0 q2) => qTake 32 (by decide) w0 W g s0 q2 H
 obtain ⟨x3, hx1⟩ : ∃ x, (hashQ s0 q2).1 = x := ⟨_, rfl⟩
 obtain ⟨q3, hq⟩ : ∃ x, (hashQ s0 q2).2 = x := ⟨_, rfl⟩
 rw [hx1] at hr h1 hl3
 rw [hq] at hr hq1
 simp only [← hq1] at hF
 obtain ⟨l3, hl⟩ : ∃ x, (takeQ s0 32 q2).1 = x := ⟨_, rfl⟩
 rw [hl] at h1
 simp only [hl] at hF
 have HF3 := am hF
 have HFIN3 := am (ET_cut2 l3 x1 x3 0 hl1 h1)
 have HLE3 := am (show l3.length ≤ 32 by rcases h1 with ⟨h, _⟩ | ⟨h, _⟩ <;> simp [h])
 have HL3 := am hl3
 have HSZ3 := am (ET_size x1 0 zH hl1 rfl)
 clear h1 hF hl hq hq1 hx1 hi2
 have HRES := am hr
 have HSZ := am (fun m => ET_size x1 m x3 hl1 hl3)
 have H32 := am (ET_32 x1 0 x3 hl1)
 have HSET := am (fun m => ET_set x1 0 m x3 hl1)
 clear hr hl1 hl3 h
 go_enter Tryz.func95, Tryz.ntmps95
 go_wp2_with fail
 have hb0 : Below w.heap.size w (w.alloc (.cells Tryz.zeroCells81 81)).drew := below_drew (below_alloc (Below.refl _ _) _)
 have hx0 : (w.alloc (.cells Tryz.zeroCells81 81)).drew.heap[w.heap.size]? = some (.cells (ET zH 0 zH) 81 (0, 0)) := (heap_alloc_new w _).trans (by rw [ET_zero])
 have HR1 := am (HR.out.below hb0)
 have HK1 := am (KeepBut.of_below hb0 g none)
 have HX1 := am hx0
 have HRG := am (show w.heap.size ≠ g by omega)
 clear hb0 hx0
 refine start_ (n := 5) (S := fun w' => True) (ds := []) #[false, false, false, false, false] (by kernel_rfl) rfl rfl trivial (fun hHeld => ?_)
 generalize (w.alloc (.cells Tryz.zeroCells81 81)).drew = W1 at *
 refine pu 0 (some 6) ?_ ?_ ?_ ?_ ?_
 rotate_left 2
 ·intro w'
  go_simp
  with_reducible rfl
 ·simp only [Act.put, sA1, sA2, sA3, i64_w, i32_w]
  rfl
 refine pu 1 (some 7) ?_ ?_ ?_ ?_ ?_
 rotate_left 2
 ·intro w'
  go_simp
  with_reducible rfl
 ·simp only [Act.put, sA1, sA2, sA3, i64_w, i32_w]
  rfl
 refine pu 2 (some 8) ?_ ?_ ?_ ?_ ?_
 rotate_left 2
 ·intro w'
  go_simp
  with_reducible rfl
 ·simp only [Act.put, sA1, sA2, sA3, i64_w, i32_w]
  rfl
 refine on (i := 3) (N := some 9) rfl rfl (by kernel_rfl) (by decide) (fun K hK => ?_)
 refine goes_ Tryz.func127 (by kernel_rfl) rfl #[.pointer (some ⟨g, 0, none⟩), .int .i64 32] (by rfl) rfl rfl (by simp only [List.map_toArray, List.map_cons, List.map_nil]; rfl) ?_
 with_reducible refine (HF1.out W1 HR1.out).mono ?_
 rintro e w2 ⟨vv, rfl, hv2, hr2, hk2⟩
 refine ⟨_, rfl, ?_⟩
 obtain ⟨A, c, rfl⟩ := Kd.R_slice hv2
 have HR2 := am hr2
 have HK2 := am (keep_then HK1.out hk2)
 have HX2 := am (KeepBut.at_ hk2 HX1.out HRG.out)
 have hcp := copy_row w2 w.heap.size 0 32 32 _ 81 A c l1 HX2.out (Kd.R_reads' hv2).2.2 HLE1.out (by have := HLE1.out; rw [HSZ1.out]; omega)
 rw [HFIN1.out] at hcp
 clear hr2 hk2 hv2
 refine hK.out _ _ trivial (fun hHeld => ?_)
 clear hK K
 refine norm_ (a' := ?_) ?_ ?_
 rotate_left
 ·show Act.put _ (some 9) _ = _
  simp only [Act.put, sA1, sA2, sA3, i64_w, i32_w]
  rfl
 refine on (i := 4) (N := some 10) rfl rfl (by kernel_rfl) (by decide) (fun K hK => ?_)
 refine value_ (w1 := ?_) (v := ?_) (by rfl) rfl ?_ ?_
 rotate_left 2
 ·go_simp
  constructor
  ·rfl
  ·rfl
 refine hK.out _ _ trivial (fun hHeld => ?_)
 clear hK K
 refine norm_ (a' := ?_) ?_ ?_
 rotate_left
 ·show Act.put _ (some 10) _ = _
  simp only [Act.put, sA1, sA2, sA3, i64_w, i32_w]
  rfl
 refine done_ (by kernel_rfl) ?_
 have HR3 := am (HR2.out.setRow HX2.out (by decide) hlt (ET x1 0 zH))
 have HX3 := am (setRow_heap w2 w.heap.size _ (ET x1 0 zH) _ _ HX2.out)
 have HK3 := am (KeepBut.row HK2.out (Nat.le_refl _) (ET x1 0 zH))
 clear hcp HR2 HX2 HK2
 generalize w2.setRow w.heap.size (ET x1 0 zH) = W3 at *
 go_wp2_with fail
 refine (HFV.out W3 HR3.out).mono ?_
 rintro e w4 ⟨rfl, hr4, hk4⟩
 have HR3 : Aside0 (Rs w0 w4.drew g s0 q2) := am (hr4.below (below_drew (Below.refl _ _)))
 have HK3 : Aside0 (KeepBut w w4.drew g none) := am (KeepBut.below_ (keep_then HK3.out hk4) (below_drew (Below.refl _ _)))
 have HX3 : Aside0 (w4.drew.heap[w.heap.size]? = some (.cells (ET x1 0 zH) 81 (0, 0))) := am (KeepBut.at_ hk4 HX3.out HRG.out)
 clear hr4 hk4
 go_wp2_with fail
 refine start_ (n := 5) (S := fun w' => True) (ds := []) #[false, false, false, false, false] (by kernel_rfl) rfl rfl trivial (fun hHeld => ?_)
 generalize w4.drew = W3 at *
 refine pu 0 (some 13) ?_ ?_ ?_ ?_ ?_
 rotate_left 2
 ·intro w'
  go_simp
  with_reducible rfl
 ·simp only [Act.put, sA1, sA2, sA3, i64_w, i32_w]
  rfl
 refine pu 1 (some 14) ?_ ?_ ?_ ?_ ?_
 rotate_left 2
 ·intro w'
  go_simp
  with_reducible rfl
 ·simp only [Act.put, sA1, sA2, sA3, i64_w, i32_w]
  rfl
 refine pu 2 (some 15) ?_ ?_ ?_ ?_ ?_
 rotate_left 2
 ·intro w'
  go_simp
  with_reducible rfl
 ·simp only [Act.put, sA1, sA2, sA3, i64_w, i32_w]
  rfl
 refine on (i := 3) (N := some 16) rfl rfl (by kernel_rfl) (by decide) (fun K hK => ?_)
 refine goes_ Tryz.func127 (by kernel_rfl) rfl #[.pointer (some ⟨g, 0, none⟩), .int .i64 32] (by rfl) rfl rfl (by simp only [List.map_toArray, List.map_cons, List.map_nil]; rfl) ?_
 with_reducible refine (HF3.out W3 HR3.out).mono ?_
 rintro e w2 ⟨vv, rfl, hv2, hr2, hk2⟩
 refine ⟨_, rfl, ?_⟩
 obtain ⟨A, c, rfl⟩ := Kd.R_slice hv2
 have HR2 := am hr2
 have HK2 := am (keep_then HK3.out hk2)
 have HX2 := am (KeepBut.at_ hk2 HX3.out HRG.out)
 have hcp := copy_row w2 w.heap.size 33 32 32 _ 81 A c l3 HX2.out (Kd.R_reads' hv2).2.2 HLE3.out (by have := HLE3.out; rw [HSZ3.out]; omega)
 rw [HFIN3.out] at hcp
 clear hr2 hk2 hv2
 refine hK.out _ _ trivial (fun hHeld => ?_)
 clear hK K
 refine norm_ (a' := ?_) ?_ ?_
 rotate_left
 ·show Act.put _ (some 16) _ = _
  simp only [Act.put, sA1, sA2, sA3, i64_w, i32_w]
  rfl
 refine on (i := 4) (N := some 17) rfl rfl (by kernel_rfl) (by decide) (fun K hK => ?_)
 refine value_ (w1 := ?_) (v := ?_) (by rfl) rfl ?_ ?_
 rotate_left 2
 ·go_simp
  constructor
  ·rfl
  ·rfl
 refine hK.out _ _ trivial (fun hHeld => ?_)
 clear hK K
 refine norm_ (a' := ?_) ?_ ?_
 rotate_left
 ·show Act.put _ (some 17) _ = _
  simp only [Act.put, sA1, sA2, sA3, i64_w, i32_w]
  rfl
 refine done_ (by kernel_rfl) ?_
 have HR5 := am (HR2.out.setRow HX2.out (by decide) hlt (ET x1 0 x3))
 have HX5 := am (setRow_heap w2 w.heap.size _ (ET x1 0 x3) _ _ HX2.out)
 have HK5 := am (KeepBut.row HK2.out (Nat.le_refl _) (ET x1 0 x3))
 clear hcp HR2 HX2 HK2
 generalize w2.setRow w.heap.size (ET x1 0 x3) = w5 at *
 by_cases hv : v > 1048576
 ·have hne := failQ_ne (e := 5) q3 (by decide)
  have e := HRES.out
  rw [if_pos hv, if_neg hne] at e
  have HRR := am e
  have HF4 := am (qFail 5 w0 w5 g s0 q3 HR5.out)
  generalize failQ 5 q3 = q4 at *
  have hb : (q4.2.1 != 0) = true := by simpa using hne
  clear e hne
  go_wp2_with fail
  refine HF4.out.mono ?_
  rintro e w6 ⟨rfl, hr6, hk6⟩
  have HR6 := am hr6
  have HK6 := am (keep_then HK5.out hk6)
  have HX6 := am (KeepBut.at_ hk6 HX5.out HRG.out)
  clear hr6 hk6
  go_wp2_with fail
  refine (qErr w0 w6 g s0 q4 HR6.out).mono ?_
  rintro e w7 ⟨rfl, hb7⟩
  have HR7 := am (HR6.out.below hb7)
  have HK7 := am (KeepBut.below_ HK6.out hb7)
  have HX7 := am ((hb7.block _ (blk_lt HX6.out)).trans HX6.out)
  clear hb7
  go_wp2_with (refine wpList_store_row rfl 81 (.tmp 2) (.tmp 29) rfl w.heap.size Tryz.zeroCells81 rfl rfl 81 _ HX7.out (by kernel_rfl) (by rw [HSZ.out]; kernel_rfl) (by kernel_rfl) ?_)
  refine bodyPost_ret (v := .agg Tryz.zeroCells81) (results_cell_row rfl _ _ w.heap.size 81 Tryz.zeroCells81 (0, 0) _ rfl (setRow_heap w7 w.heap.size _ Tryz.zeroCells81 _ _ HX7.out) Tryz.underlying81 rfl (by kernel_rfl)) rfl ?_
  rw [HRR.out]
  exact ⟨by rw [ET_zero]; rfl, HR7.out.setRow HX7.out (by decide) hlt _, KeepBut.row HK7.out (Nat.le_refl _) _⟩
 ·have e := HRES.out
  rw [if_neg hv] at e
  have HRR0 := am e
  clear e
  go_wp2_with fail
  refine (qErr w0 w5 g s0 q3 HR5.out).mono ?_
  rintro e w7 ⟨rfl, hb7⟩
  have HR7 := am (HR5.out.below hb7)
  have HK7 := am (KeepBut.below_ HK5.out hb7)
  have HX7 := am ((hb7.block _ (blk_lt HX5.out)).trans HX5.out)
  clear hb7
  by_cases hz : q3.2.1 = 0
  ·have hb : (q3.2.1 != 0) = false := by simpa using hz
   have e := HRR0.out
   rw [if_pos hz] at e
   have HRR := am e
   have hwv : wrap64 v = v := by unfold wrap64; omega
   have q32 : w7.cell? ⟨w.heap.size, 32, none⟩ = some (.int .i64 0) := (blk_cell HX7.out 32).trans H32.out
   have f32 := blk_frozen HX7.out 32
   have HX8 : Aside0 ((w7.setCell ⟨w.heap.size, 32, none⟩ (.int .i64 v)).heap[w.heap.size]? = some (.cells (ET x1 v x3) 81 (0, 0))) := am (by rw [setCell_eq_setRow _ _ _ _ _ _ _ HX7.out]; exact (setRow_heap _ _ _ _ _ _ HX7.out).trans (by rw [HSET.out]))
   have HR8 := am (HR7.out.setCell HX7.out (by decide) hlt 32 (.int .i64 v))
   have HK8 := am (KeepBut.cell HK7.out (Nat.le_refl _) 32 (.int .i64 v))
   clear hz e
   go_wp2_with (first | (refine wpList_load_row rfl 81 (.tmp 2) rfl w.heap.size rfl 81 (ET x1 v x3) (0, 0) _ HX8.out Tryz.underlying81 rfl (by rw [HSZ.out]; kernel_rfl) ?_) | (refine wpList_store_row rfl 81 (.tmp 2) (.tmp 33) rfl w.heap.size (ET x1 v x3) rfl rfl 81 _ HX8.out (by rw [HSZ.out]; kernel_rfl) rfl (ET_all _ _ _) ?_))
   generalize w7.setCell ⟨w.heap.size, 32, none⟩ (.int .i64 v) = w8 at *
   rw [setRow_self w8 w.heap.size _ _ _ HX8.out]
   refine bodyPost_ret (v := .agg (ET x1 v x3)) (results_cell_row rfl _ _ w.heap.size 81 (ET x1 v x3) (0, 0) _ rfl HX8.out Tryz.underlying81 rfl (by rw [HSZ.out]; kernel_rfl)) rfl ?_
   rw [HRR.out]
   exact ⟨rfl, HR8.out, HK8.out⟩
  ·have hb : (q3.2.1 != 0) = true := by simpa using hz
   have e := HRR0.out
   rw [if_neg hz] at e
   have HRR := am e
   clear hz e
   go_wp2_with (refine wpList_store_row rfl 81 (.tmp 2) (.tmp 29) rfl w.heap.size Tryz.zeroCells81 rfl rfl 81 _ HX7.out (by kernel_rfl) (by rw [HSZ.out]; kernel_rfl) (by kernel_rfl) ?_)
   refine bodyPost_ret (v := .agg Tryz.zeroCells81) (results_cell_row rfl _ _ w.heap.size 81 Tryz.zeroCells81 (0, 0) _ rfl (setRow_heap w7 w.heap.size _ Tryz.zeroCells81 _ _ HX7.out) Tryz.underlying81 rfl (by kernel_rfl)) rfl ?_
   rw [HRR.out]
   exact ⟨by rw [ET_zero]; rfl, HR7.out.setRow HX7.out (by decide) hlt _, KeepBut.row HK7.out (Nat.le_refl _) _⟩
set_option maxHeartbeats 1600000 in
set_option maxRecDepth 100000 in
theorem qEnd (w0 w : World) (g : Nat) (s0 : List Int) (q : St) (h : Rs w0 w g s0 q) :
  Calls Tryz.prog 96 #[.pointer (some ⟨g, 0, none⟩)] w fun e w' => ∃ p, e = .returned (.tuple #[.int .i64 (endQ s0 q), .int .i64 p]) ∧ Below w.heap.size w w' := by
 have HR := am h
 have h0 := h.inn.lo
 have h1 := h.inn.hi
 have h2 := h.inn.len
 have HE := am (qErr w0 w g s0 q h)
 obtain ⟨r, hr⟩ : ∃ r, r = endQ s0 q := ⟨_, rfl⟩
 rw [← hr]
 unfold endQ at hr
 have HRES := am hr
 clear h hr
 go_enter Tryz.func96, Tryz.ntmps96
 go_wp2_with fail
 refine HE.out.mono ?_
 rintro e w1 ⟨rfl, hb1⟩
 have HR1 := am (HR.out.below hb1)
 have HB1 := am hb1
 clear hb1
 by_cases hz : q.2.1 = 0
 ·have hb : (q.2.1 == 0) = true := by simpa using hz
  have hwl : wrap64 ((s0.length : Int) - q.1) = (s0.length : Int) - q.1 := by unfold wrap64; omega
  have e := HRES.out
  rw [if_pos hz] at e
  have HRR := am e
  have hLf := rd_left g s0 q.1 q.2.1 q.2.2 w0 w1 HR1.out.rd
  rw [hwl] at hLf
  have HLF := am hLf
  have HZ := am hz
  clear e hz hLf hwl
  go_wp2_with fail
  refine HLF.out.mono ?_
  rintro e w2 ⟨rfl, ⟨nd, rfl⟩⟩
  have HB2 := am (HB1.out.trans ((pw_below_drewN (Below.refl _ w1) nd).mono HB1.out.size))
  have HR2 := am (HR1.out.below (pw_below_drewN (Below.refl _ w1) nd))
  generalize w1.drewN nd = w2 at *
  by_cases hp : q.1 < (s0.length : Int)
  ·have e := HRR.out
   rw [if_pos hp] at e
   have hd : decide (0 < (s0.length : Int) - q.1) = true := decide_eq_true (by omega)
   obtain ⟨A, c, ev, k1, k2, k3, k4, k5⟩ := HR2.out.rd
   have c1 : w2.cell? ⟨g, 1, none⟩ = some (.int .i64 q.1) := blk_cell k1 1
   have HRE := am e
   clear k1 k2 k3 k4 k5 e
   go_wp2
   go_quiet (fail)
   go_wp2
   go_ret2
   rw [HRE.out]
   exact ⟨_, rfl, HB2.out.trans (pw_below_drewN (Below.refl _ _) _)⟩
  ·have e := HRR.out
   rw [if_neg hp] at e
   have hd : decide (0 < (s0.length : Int) - q.1) = false := decide_eq_false (by omega)
   have HRE := am (e.trans HZ.out.symm)
   clear e
   go_wp2
   go_ret2
   rw [HRE.out]
   exact ⟨_, rfl, HB2.out⟩
 ·have hb : (q.2.1 == 0) = false := beq_eq_false_iff_ne.2 hz
  have e := HRES.out
  rw [if_neg hz] at e
  have HRR := am e
  clear e hz
  go_wp2
  go_ret2
  rw [HRR.out]
  exact ⟨_, rfl, HB1.out⟩
end
end Go.Proofs.YtjmhiklmlgbifaaGreatDoor.PMan

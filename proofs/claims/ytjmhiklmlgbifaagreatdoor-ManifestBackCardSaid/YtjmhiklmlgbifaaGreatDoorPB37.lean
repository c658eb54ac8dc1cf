/- Texts of this proof, put into one, without what it does not use: MuI, MuJ. -/
import Derived.Test.YtjmhiklmlgbifaaGreatDoorPB36
import Derived.Test.YtjmhiklmlgbifaaGreatDoorPB22
section
namespace Go.Proofs.YtjmhiklmlgbifaaGreatDoor.PMan
open Go.RowKit Go.Proofs.YtjmhiklmlgbifaaGreatDoorW.PrintWords Go.Proofs.YtjmhiklmlgbifaaGreatDoorW.PrintLast Go.Proofs.YtjmhiklmlgbifaaGreatDoorW.PrintMore
attribute [local go_sem] max2_int min2_int max_two min_two
set_option linter.unusedVariables false
set_option linter.unusedSimpArgs false
/-- An entry's cells. -/
def ET (x : List Int) (n : Int) (y : List Int) : Array Value := (enCells ⟨x, n, y⟩).toArray
theorem ET_zero : Tryz.zeroCells81 = ET zH 0 zH := by kernel_rfl
theorem ET_size (x : List Int) (n : Int) (y : List Int) (hx : x.length = 32) (hy : y.length = 32) : (ET x n y).size = 65 := by
  unfold ET enCells
  rw [List.size_toArray, List.length_append, List.length_cons, hashCells_length, hashCells_length, hx, hy]
theorem ET_all (x : List Int) (n : Int) (y : List Int) : (ET x n y).all (·.oneCell') = true := by
  unfold ET
  rw [List.all_toArray]
  exact List.all_eq_true.2 (fun v hv => by
    rcases List.mem_append.1 hv with h | h
    · exact hash_one _ v h
    · rcases List.mem_cons.1 h with rfl | h
      · rfl
      · exact hash_one _ v h)
theorem ET_32 (x : List Int) (n : Int) (y : List Int) (hx : x.length = 32) : (ET x n y)[32]? = some (.int .i64 n) := by
  unfold ET enCells
  rw [List.getElem?_toArray, List.getElem?_append_right (by rw [hashCells_length, hx]; decide), hashCells_length, hx]
  rfl
theorem ET_set (x : List Int) (n m : Int) (y : List Int) (hx : x.length = 32) : (ET x n y).setIfInBounds 32 (.int .i64 m) = ET x m y := by
  unfold ET enCells
  rw [List.setIfInBounds_toArray, List.set_append_right _ _ (by rw [hashCells_length, hx]; decide), hashCells_length, hx]
  rfl
/-- The first digest, copied in. -/
theorem ET_cut1 (l x y : List Int) (n : Int) (h : (l.length = 32 ∧ x = l) ∨ (l = [] ∧ x = zH)) : ((ET zH n y).toList.take 0 ++ hashCells l ++ (ET zH n y).toList.drop (0 + l.length)).toArray = ET x n y := by
  rcases h with ⟨h, rfl⟩ | ⟨rfl, rfl⟩
  · unfold ET enCells
    dsimp only
    rw [List.take_zero, List.nil_append, Nat.zero_add, h, List.drop_append_of_le_length (by rw [hashCells_length]; decide), List.drop_eq_nil_of_le (by rw [hashCells_length]; decide), List.nil_append]
  · unfold ET
    show ([] ++ [] ++ List.drop 0 _).toArray = _
    rw [List.drop_zero, List.append_nil, List.nil_append, List.toList_toArray]
/-- The second one. -/
theorem ET_cut2 (l x y : List Int) (n : Int) (hx : x.length = 32) (h : (l.length = 32 ∧ y = l) ∨ (l = [] ∧ y = zH)) : ((ET x n zH).toList.take 33 ++ hashCells l ++ (ET x n zH).toList.drop (33 + l.length)).toArray = ET x n y := by
  have e : ∀ y : List Int, enCells ⟨x, n, y⟩ = (hashCells x ++ [.int .i64 n]) ++ hashCells y := fun y => by unfold enCells; simp
  have hl : (hashCells x ++ [Value.int .i64 n]).length = 33 := by rw [List.length_append, hashCells_length, hx]; rfl
  have ht : (ET x n zH).toList.take 33 = hashCells x ++ [.int .i64 n] := by
    unfold ET
    rw [List.toList_toArray, e, List.take_append_of_le_length (by rw [hl]; decide), List.take_of_length_le (by rw [hl]; decide)]
  have hd : ∀ k, (ET x n zH).toList.drop (33 + k) = (hashCells zH).drop k := fun k => by
    unfold ET
    rw [List.toList_toArray, e, ← hl, List.drop_append, List.drop_eq_nil_of_le (by omega), List.nil_append, Nat.add_sub_cancel_left]
  rw [ht, hd]
  unfold ET
  rw [e]
  rcases h with ⟨h, rfl⟩ | ⟨rfl, rfl⟩
  · rw [List.drop_eq_nil_of_le (by rw [hashCells_length, h]; decide), List.append_nil]
  · rw [List.length_nil, List.drop_zero]
    show (hashCells x ++ [Value.int .i64 n] ++ [] ++ hashCells zH).toArray = _
    rw [List.append_nil]
theorem hashQ_is {s0 : List Int} {q : St} (h : In s0 q) : ((takeQ s0 32 q).1.length = 32 ∧ (hashQ s0 q).1 = (takeQ s0 32 q).1) ∨ ((takeQ s0 32 q).1 = [] ∧ (hashQ s0 q).1 = zH) := by
  unfold hashQ
  dsimp only
  rcases takeQ_len 32 (by decide) h with ⟨h1, h2⟩ | ⟨h1, h2⟩
  · exact .inl ⟨h1, by rw [if_pos h2]⟩
  · exact .inr ⟨h1, by rw [if_neg h2]⟩
set_option maxHeartbeats 8000000 in
set_option maxRecDepth 100000 in
theorem qEnt (w0 w : World) (g : Nat) (s0 : List Int) (q : St) (h : Rs w0 w g s0 q) :
    Calls Tryz.prog 95 #[.pointer (some ⟨g, 0, none⟩)] w fun e w' => e = .returned (.agg (enCells (entQ s0 q).1).toArray) ∧ Rs w0 w' g s0 (entQ s0 q).2 ∧ KeepBut w w' g none := by
  have HR := Aside0.mk h
  have hlt := h.lt
  have hi := h.inn
  obtain ⟨r, hr⟩ : ∃ r, r = entQ s0 q := ⟨_, rfl⟩
  rw [← hr]
  unfold entQ entR at hr
  -- the first digest
  have h1 := hashQ_is hi
  have hl1 := hashQ_len hi
  have hi1 := hashQ_in hi
  have hq1 : (hashQ s0 q).2 = (takeQ s0 32 q).2 := rfl
  have hF := fun W (H : Rs w0 W g s0 q) => qTake 32 (by decide) w0 W g s0 q H
  obtain ⟨x1, hx1⟩ : ∃ x, (hashQ s0 q).1 = x := ⟨_, rfl⟩
  obtain ⟨q1, hq⟩ : ∃ x, (hashQ s0 q).2 = x := ⟨_, rfl⟩
  rw [hx1] at hr h1 hl1
  rw [hq] at hr hi1 hq1
  simp only [← hq1] at hF
  obtain ⟨l1, hl⟩ : ∃ x, (takeQ s0 32 q).1 = x := ⟨_, rfl⟩
  rw [hl] at h1
  simp only [hl] at hF
  have HF1 := Aside0.mk hF
  have HFIN1 := Aside0.mk (ET_cut1 l1 x1 zH 0 h1)
  have HLE1 := Aside0.mk (show l1.length ≤ 32 by rcases h1 with ⟨h, _⟩ | ⟨h, _⟩ <;> simp [h])
  have HL1 := Aside0.mk hl1
  have HSZ1 := Aside0.mk (ET_size zH 0 zH rfl rfl)
  clear h1 hF hl hq hq1 hx1
  -- the number
  have hvr := varQ_range hi1
  have hF := fun W (H : Rs w0 W g s0 q1) => qVar w0 W g s0 q1 H
  have hi2 := varQ_in hi1
  obtain ⟨v, q2, hkq⟩ : ∃ k q2, varQ s0 q1 = (k, q2) := ⟨_, _, rfl⟩
  rw [hkq] at hr hvr hi2
  simp only [hkq] at hF
  dsimp only at hr hvr hi2
  have HFV := Aside0.mk hF
  clear hF hkq hi1 hi
  -- the second digest
  have h1 := hashQ_is hi2
  have hl3 := hashQ_len hi2
  have hq1 : (hashQ s0 q2).2 = (takeQ s0 32 q2).2 := rfl
  have hF := fun W (H : Rs w0 W g s0 q2) => qTake 32 (by decide) w0 W g s0 q2 H
  obtain ⟨x3, hx1⟩ : ∃ x, (hashQ s0 q2).1 = x := ⟨_, rfl⟩
  obtain ⟨q3, hq⟩ : ∃ x, (hashQ s0 q2).2 = x := ⟨_, rfl⟩
  rw [hx1] at hr h1 hl3
  rw [hq] at hr hq1
  simp only [← hq1] at hF
  obtain ⟨l3, hl⟩ : ∃ x, (takeQ s0 32 q2).1 = x := ⟨_, rfl⟩
  rw [hl] at h1
  simp only [hl] at hF
  have HF3 := Aside0.mk hF
  have HFIN3 := Aside0.mk (ET_cut2 l3 x1 x3 0 hl1 h1)
  have HLE3 := Aside0.mk (show l3.length ≤ 32 by rcases h1 with ⟨h, _⟩ | ⟨h, _⟩ <;> simp [h])
  have HL3 := Aside0.mk hl3
  have HSZ3 := Aside0.mk (ET_size x1 0 zH hl1 rfl)
  clear h1 hF hl hq hq1 hx1 hi2
  have HRES := Aside0.mk hr
  have HSZ := Aside0.mk (fun m => ET_size x1 m x3 hl1 hl3)
  have H32 := Aside0.mk (ET_32 x1 0 x3 hl1)
  have HSET := Aside0.mk (fun m => ET_set x1 0 m x3 hl1)
  clear hr hl1 hl3 h
  go_enter Tryz.func95, Tryz.ntmps95
  go_wp2_with fail
  have hb0 : Below w.heap.size w (w.alloc (.cells Tryz.zeroCells81 81)).drew := below_drew (below_alloc (Below.refl _ _) _)
  have hx0 : (w.alloc (.cells Tryz.zeroCells81 81)).drew.heap[w.heap.size]? = some (.cells (ET zH 0 zH) 81 (0, 0)) := (heap_alloc_new w _).trans (by rw [ET_zero])
  have HR1 := Aside0.mk (HR.out.below hb0)
  have HK1 := Aside0.mk (KeepBut.of_below hb0 g none)
  have HX1 := Aside0.mk hx0
  have HRG := Aside0.mk (show w.heap.size ≠ g by omega)
  clear hb0 hx0
  refine start_ (n := 5) (S := fun w' => True) (ds := []) #[false, false, false, false, false] (by kernel_rfl) rfl rfl trivial (fun hHeld => ?_)
  generalize (w.alloc (.cells Tryz.zeroCells81 81)).drew = W1 at *
  refine pure_ (i := 0) (N := some 6) (v := ?_) (a' := ?_) #[true, false, false, false, false] rfl rfl (by kernel_rfl) (fun _ _ _ h => h) (Or.inl ⟨by rfl, ?_⟩) ?_ ?_
  rotate_left
  · intro w'
    go_simp
    with_reducible rfl
  rotate_left
  · simp only [Act.put, List.setIfInBounds_toArray, List.set_cons_zero, List.set_cons_succ, i64_w, i32_w]
    rfl
  refine pure_ (i := 1) (N := some 7) (v := ?_) (a' := ?_) #[true, true, false, false, false] rfl rfl (by kernel_rfl) (fun _ _ _ h => h) (Or.inl ⟨by rfl, ?_⟩) ?_ ?_
  rotate_left
  · intro w'
    go_simp
    with_reducible rfl
  rotate_left
  · simp only [Act.put, List.setIfInBounds_toArray, List.set_cons_zero, List.set_cons_succ, i64_w, i32_w]
    rfl
  refine pure_ (i := 2) (N := some 8) (v := ?_) (a' := ?_) #[true, true, true, false, false] rfl rfl (by kernel_rfl) (fun _ _ _ h => h) (Or.inl ⟨by rfl, ?_⟩) ?_ ?_
  rotate_left
  · intro w'
    go_simp
    with_reducible rfl
  rotate_left
  · simp only [Act.put, List.setIfInBounds_toArray, List.set_cons_zero, List.set_cons_succ, i64_w, i32_w]
    rfl
  refine one_ (i := 3) (N := some 9) #[true, true, true, true, false] rfl rfl (by kernel_rfl) (by decide) (fun K hK => ?_)
  refine goes_ Tryz.func127 (by kernel_rfl) rfl #[.pointer (some ⟨g, 0, none⟩), .int .i64 32] (by rfl) rfl rfl (by simp only [List.map_toArray, List.map_cons, List.map_nil]; rfl) ?_
  with_reducible refine (HF1.out W1 HR1.out).mono ?_
  rintro e w2 ⟨vv, rfl, hv2, hr2, hk2⟩
  refine ⟨_, rfl, ?_⟩
  obtain ⟨A, c, rfl⟩ := Kd.R_slice hv2
  have HR2 := Aside0.mk hr2
  have HK2 := Aside0.mk (keep_then HK1.out hk2)
  have HX2 := Aside0.mk (KeepBut.at_ hk2 HX1.out HRG.out)
  have hcp := copy_row w2 w.heap.size 0 32 32 _ 81 A c l1 HX2.out (Kd.R_reads' hv2).2.2 HLE1.out (by have := HLE1.out; rw [HSZ1.out]; omega)
  rw [HFIN1.out] at hcp
  clear hr2 hk2 hv2
  refine hK.out _ _ trivial (fun hHeld => ?_)
  clear hK K
  refine norm_ (a' := ?_) ?_ ?_
  rotate_left
  · show Act.put _ (some 9) _ = _
    simp only [Act.put, List.setIfInBounds_toArray, List.set_cons_zero, List.set_cons_succ, i64_w, i32_w]
    rfl
  refine one_ (i := 4) (N := some 10) #[true, true, true, true, true] rfl rfl (by kernel_rfl) (by decide) (fun K hK => ?_)
  refine value_ (w1 := ?_) (v := ?_) (by rfl) rfl ?_ ?_
  rotate_left 2
  · go_simp
    constructor
    · rfl
    · rfl
  refine hK.out _ _ trivial (fun hHeld => ?_)
  clear hK K
  refine norm_ (a' := ?_) ?_ ?_
  rotate_left
  · show Act.put _ (some 10) _ = _
    simp only [Act.put, List.setIfInBounds_toArray, List.set_cons_zero, List.set_cons_succ, i64_w, i32_w]
    rfl
  refine done_ (by kernel_rfl) ?_
  have HR3 := Aside0.mk (HR2.out.setRow HX2.out (by decide) hlt (ET x1 0 zH))
  have HX3 := Aside0.mk (setRow_heap w2 w.heap.size _ (ET x1 0 zH) _ _ HX2.out)
  have HK3 := Aside0.mk (KeepBut.row HK2.out (Nat.le_refl _) (ET x1 0 zH))
  clear hcp HR2 HX2 HK2
  generalize w2.setRow w.heap.size (ET x1 0 zH) = W3 at *
  go_wp2_with fail
  refine (HFV.out W3 HR3.out).mono ?_
  rintro e w4 ⟨rfl, hr4, hk4⟩
  have HR3 : Aside0 (Rs w0 w4.drew g s0 q2) := Aside0.mk (hr4.below (below_drew (Below.refl _ _)))
  have HK3 : Aside0 (KeepBut w w4.drew g none) := Aside0.mk (KeepBut.below_ (keep_then HK3.out hk4) (below_drew (Below.refl _ _)))
  have HX3 : Aside0 (w4.drew.heap[w.heap.size]? = some (.cells (ET x1 0 zH) 81 (0, 0))) := Aside0.mk (KeepBut.at_ hk4 HX3.out HRG.out)
  clear hr4 hk4
  go_wp2_with fail
  refine start_ (n := 5) (S := fun w' => True) (ds := []) #[false, false, false, false, false] (by kernel_rfl) rfl rfl trivial (fun hHeld => ?_)
  generalize w4.drew = W3 at *
  refine pure_ (i := 0) (N := some 13) (v := ?_) (a' := ?_) #[true, false, false, false, false] rfl rfl (by kernel_rfl) (fun _ _ _ h => h) (Or.inl ⟨by rfl, ?_⟩) ?_ ?_
  rotate_left
  · intro w'
    go_simp
    with_reducible rfl
  rotate_left
  · simp only [Act.put, List.setIfInBounds_toArray, List.set_cons_zero, List.set_cons_succ, i64_w, i32_w]
    rfl
  refine pure_ (i := 1) (N := some 14) (v := ?_) (a' := ?_) #[true, true, false, false, false] rfl rfl (by kernel_rfl) (fun _ _ _ h => h) (Or.inl ⟨by rfl, ?_⟩) ?_ ?_
  rotate_left
  · intro w'
    go_simp
    with_reducible rfl
  rotate_left
  · simp only [Act.put, List.setIfInBounds_toArray, List.set_cons_zero, List.set_cons_succ, i64_w, i32_w]
    rfl
  refine pure_ (i := 2) (N := some 15) (v := ?_) (a' := ?_) #[true, true, true, false, false] rfl rfl (by kernel_rfl) (fun _ _ _ h => h) (Or.inl ⟨by rfl, ?_⟩) ?_ ?_
  rotate_left
  · intro w'
    go_simp
    with_reducible rfl
  rotate_left
  · simp only [Act.put, List.setIfInBounds_toArray, List.set_cons_zero, List.set_cons_succ, i64_w, i32_w]
    rfl
  refine one_ (i := 3) (N := some 16) #[true, true, true, true, false] rfl rfl (by kernel_rfl) (by decide) (fun K hK => ?_)
  refine goes_ Tryz.func127 (by kernel_rfl) rfl #[.pointer (some ⟨g, 0, none⟩), .int .i64 32] (by rfl) rfl rfl (by simp only [List.map_toArray, List.map_cons, List.map_nil]; rfl) ?_
  with_reducible refine (HF3.out W3 HR3.out).mono ?_
  rintro e w2 ⟨vv, rfl, hv2, hr2, hk2⟩
  refine ⟨_, rfl, ?_⟩
  obtain ⟨A, c, rfl⟩ := Kd.R_slice hv2
  have HR2 := Aside0.mk hr2
  have HK2 := Aside0.mk (keep_then HK3.out hk2)
  have HX2 := Aside0.mk (KeepBut.at_ hk2 HX3.out HRG.out)
  have hcp := copy_row w2 w.heap.size 33 32 32 _ 81 A c l3 HX2.out (Kd.R_reads' hv2).2.2 HLE3.out (by have := HLE3.out; rw [HSZ3.out]; omega)
  rw [HFIN3.out] at hcp
  clear hr2 hk2 hv2
  refine hK.out _ _ trivial (fun hHeld => ?_)
  clear hK K
  refine norm_ (a' := ?_) ?_ ?_
  rotate_left
  · show Act.put _ (some 16) _ = _
    simp only [Act.put, List.setIfInBounds_toArray, List.set_cons_zero, List.set_cons_succ, i64_w, i32_w]
    rfl
  refine one_ (i := 4) (N := some 17) #[true, true, true, true, true] rfl rfl (by kernel_rfl) (by decide) (fun K hK => ?_)
  refine value_ (w1 := ?_) (v := ?_) (by rfl) rfl ?_ ?_
  rotate_left 2
  · go_simp
    constructor
    · rfl
    · rfl
  refine hK.out _ _ trivial (fun hHeld => ?_)
  clear hK K
  refine norm_ (a' := ?_) ?_ ?_
  rotate_left
  · show Act.put _ (some 17) _ = _
    simp only [Act.put, List.setIfInBounds_toArray, List.set_cons_zero, List.set_cons_succ, i64_w, i32_w]
    rfl
  refine done_ (by kernel_rfl) ?_
  have HR5 := Aside0.mk (HR2.out.setRow HX2.out (by decide) hlt (ET x1 0 x3))
  have HX5 := Aside0.mk (setRow_heap w2 w.heap.size _ (ET x1 0 x3) _ _ HX2.out)
  have HK5 := Aside0.mk (KeepBut.row HK2.out (Nat.le_refl _) (ET x1 0 x3))
  clear hcp HR2 HX2 HK2
  generalize w2.setRow w.heap.size (ET x1 0 x3) = w5 at *
  by_cases hv : v > 1048576
  · have hne := failQ_ne (e := 5) q3 (by decide)
    have e := HRES.out
    rw [if_pos hv, if_neg hne] at e
    have HRR := Aside0.mk e
    have HF4 := Aside0.mk (qFail 5 w0 w5 g s0 q3 HR5.out)
    generalize failQ 5 q3 = q4 at *
    have hb : (q4.2.1 != 0) = true := by simpa using hne
    clear e hne
    go_wp2_with fail
    refine HF4.out.mono ?_
    rintro e w6 ⟨rfl, hr6, hk6⟩
    have HR6 := Aside0.mk hr6
    have HK6 := Aside0.mk (keep_then HK5.out hk6)
    have HX6 := Aside0.mk (KeepBut.at_ hk6 HX5.out HRG.out)
    clear hr6 hk6
    go_wp2_with fail
    refine (qErr w0 w6 g s0 q4 HR6.out).mono ?_
    rintro e w7 ⟨rfl, hb7⟩
    have HR7 := Aside0.mk (HR6.out.below hb7)
    have HK7 := Aside0.mk (KeepBut.below_ HK6.out hb7)
    have HX7 := Aside0.mk ((hb7.block _ (blk_lt HX6.out)).trans HX6.out)
    clear hb7
    go_wp2_with (refine wpList_store_row rfl 81 (.tmp 2) (.tmp 29) rfl w.heap.size Tryz.zeroCells81 rfl rfl 81 _ HX7.out (by kernel_rfl) (by rw [HSZ.out]; kernel_rfl) (by kernel_rfl) ?_)
    refine bodyPost_ret (v := .agg Tryz.zeroCells81) (results_cell_row rfl _ _ w.heap.size 81 Tryz.zeroCells81 (0, 0) _ rfl (setRow_heap w7 w.heap.size _ Tryz.zeroCells81 _ _ HX7.out) Tryz.underlying81 rfl (by kernel_rfl)) rfl ?_
    rw [HRR.out]
    exact ⟨by rw [ET_zero]; rfl, HR7.out.setRow HX7.out (by decide) hlt _, KeepBut.row HK7.out (Nat.le_refl _) _⟩
  · have e := HRES.out
    rw [if_neg hv] at e
    have HRR0 := Aside0.mk e
    clear e
    go_wp2_with fail
    refine (qErr w0 w5 g s0 q3 HR5.out).mono ?_
    rintro e w7 ⟨rfl, hb7⟩
    have HR7 := Aside0.mk (HR5.out.below hb7)
    have HK7 := Aside0.mk (KeepBut.below_ HK5.out hb7)
    have HX7 := Aside0.mk ((hb7.block _ (blk_lt HX5.out)).trans HX5.out)
    clear hb7
    by_cases hz : q3.2.1 = 0
    · have hb : (q3.2.1 != 0) = false := by simpa using hz
      have e := HRR0.out
      rw [if_pos hz] at e
      have HRR := Aside0.mk e
      have hwv : wrap64 v = v := by unfold wrap64; omega
      have q32 : w7.cell? ⟨w.heap.size, 32, none⟩ = some (.int .i64 0) := (blk_cell HX7.out 32).trans H32.out
      have f32 := blk_frozen HX7.out 32
      have HX8 : Aside0 ((w7.setCell ⟨w.heap.size, 32, none⟩ (.int .i64 v)).heap[w.heap.size]? = some (.cells (ET x1 v x3) 81 (0, 0))) := Aside0.mk (by rw [setCell_eq_setRow _ _ _ _ _ _ _ HX7.out]; exact (setRow_heap _ _ _ _ _ _ HX7.out).trans (by rw [HSET.out]))
      have HR8 := Aside0.mk (HR7.out.setCell HX7.out (by decide) hlt 32 (.int .i64 v))
      have HK8 := Aside0.mk (KeepBut.cell HK7.out (Nat.le_refl _) 32 (.int .i64 v))
      clear hz e
      go_wp2_with (first | (refine wpList_load_row rfl 81 (.tmp 2) rfl w.heap.size rfl 81 (ET x1 v x3) (0, 0) _ HX8.out Tryz.underlying81 rfl (by rw [HSZ.out]; kernel_rfl) ?_) | (refine wpList_store_row rfl 81 (.tmp 2) (.tmp 33) rfl w.heap.size (ET x1 v x3) rfl rfl 81 _ HX8.out (by rw [HSZ.out]; kernel_rfl) rfl (ET_all _ _ _) ?_))
      generalize w7.setCell ⟨w.heap.size, 32, none⟩ (.int .i64 v) = w8 at *
      rw [setRow_self w8 w.heap.size _ _ _ HX8.out]
      refine bodyPost_ret (v := .agg (ET x1 v x3)) (results_cell_row rfl _ _ w.heap.size 81 (ET x1 v x3) (0, 0) _ rfl HX8.out Tryz.underlying81 rfl (by rw [HSZ.out]; kernel_rfl)) rfl ?_
      rw [HRR.out]
      exact ⟨rfl, HR8.out, HK8.out⟩
    · have hb : (q3.2.1 != 0) = true := by simpa using hz
      have e := HRR0.out
      rw [if_neg hz] at e
      have HRR := Aside0.mk e
      clear hz e
      go_wp2_with (refine wpList_store_row rfl 81 (.tmp 2) (.tmp 29) rfl w.heap.size Tryz.zeroCells81 rfl rfl 81 _ HX7.out (by kernel_rfl) (by rw [HSZ.out]; kernel_rfl) (by kernel_rfl) ?_)
      refine bodyPost_ret (v := .agg Tryz.zeroCells81) (results_cell_row rfl _ _ w.heap.size 81 Tryz.zeroCells81 (0, 0) _ rfl (setRow_heap w7 w.heap.size _ Tryz.zeroCells81 _ _ HX7.out) Tryz.underlying81 rfl (by kernel_rfl)) rfl ?_
      rw [HRR.out]
      exact ⟨by rw [ET_zero]; rfl, HR7.out.setRow HX7.out (by decide) hlt _, KeepBut.row HK7.out (Nat.le_refl _) _⟩
set_option maxHeartbeats 1600000 in
set_option maxRecDepth 100000 in
theorem qEnd (w0 w : World) (g : Nat) (s0 : List Int) (q : St) (h : Rs w0 w g s0 q) :
    Calls Tryz.prog 96 #[.pointer (some ⟨g, 0, none⟩)] w fun e w' => ∃ p, e = .returned (.tuple #[.int .i64 (endQ s0 q), .int .i64 p]) ∧ Below w.heap.size w w' := by
  have HR := Aside0.mk h
  have h0 := h.inn.lo
  have h1 := h.inn.hi
  have h2 := h.inn.len
  have HE := Aside0.mk (qErr w0 w g s0 q h)
  obtain ⟨r, hr⟩ : ∃ r, r = endQ s0 q := ⟨_, rfl⟩
  rw [← hr]
  unfold endQ at hr
  have HRES := Aside0.mk hr
  clear h hr
  go_enter Tryz.func96, Tryz.ntmps96
  go_wp2_with fail
  refine HE.out.mono ?_
  rintro e w1 ⟨rfl, hb1⟩
  have HR1 := Aside0.mk (HR.out.below hb1)
  have HB1 := Aside0.mk hb1
  clear hb1
  by_cases hz : q.2.1 = 0
  · have hb : (q.2.1 == 0) = true := by simpa using hz
    have hwl : wrap64 ((s0.length : Int) - q.1) = (s0.length : Int) - q.1 := by unfold wrap64; omega
    have e := HRES.out
    rw [if_pos hz] at e
    have HRR := Aside0.mk e
    have hLf := rd_left g s0 q.1 q.2.1 q.2.2 w0 w1 HR1.out.rd
    rw [hwl] at hLf
    have HLF := Aside0.mk hLf
    have HZ := Aside0.mk hz
    clear e hz hLf hwl
    go_wp2_with fail
    refine HLF.out.mono ?_
    rintro e w2 ⟨rfl, ⟨nd, rfl⟩⟩
    have HB2 := Aside0.mk (HB1.out.trans ((pw_below_drewN (Below.refl _ w1) nd).mono HB1.out.size))
    have HR2 := Aside0.mk (HR1.out.below (pw_below_drewN (Below.refl _ w1) nd))
    generalize w1.drewN nd = w2 at *
    by_cases hp : q.1 < (s0.length : Int)
    · have e := HRR.out
      rw [if_pos hp] at e
      have hd : decide (0 < (s0.length : Int) - q.1) = true := decide_eq_true (by omega)
      obtain ⟨A, c, ev, k1, k2, k3, k4, k5⟩ := HR2.out.rd
      have c1 : w2.cell? ⟨g, 1, none⟩ = some (.int .i64 q.1) := blk_cell k1 1
      have HRE := Aside0.mk e
      clear k1 k2 k3 k4 k5 e
      go_wp2
      go_quiet (fail)
      go_wp2
      go_ret2
      rw [HRE.out]
      exact ⟨_, rfl, HB2.out.trans (pw_below_drewN (Below.refl _ _) _)⟩
    · have e := HRR.out
      rw [if_neg hp] at e
      have hd : decide (0 < (s0.length : Int) - q.1) = false := decide_eq_false (by omega)
      have HRE := Aside0.mk (e.trans HZ.out.symm)
      clear e
      go_wp2
      go_ret2
      rw [HRE.out]
      exact ⟨_, rfl, HB2.out⟩
  · have hb : (q.2.1 == 0) = false := beq_eq_false_iff_ne.2 hz
    have e := HRES.out
    rw [if_neg hz] at e
    have HRR := Aside0.mk e
    clear e hz
    go_wp2
    go_ret2
    rw [HRR.out]
    exact ⟨_, rfl, HB1.out⟩
end Go.Proofs.YtjmhiklmlgbifaaGreatDoor.PMan
end
section
namespace Go.Proofs.YtjmhiklmlgbifaaGreatDoor.PMan
open Go.RowKit Go.Proofs.YtjmhiklmlgbifaaGreatDoorW.PrintWords Go.Proofs.YtjmhiklmlgbifaaGreatDoorW.PrintLast Go.Proofs.YtjmhiklmlgbifaaGreatDoorW.PrintMore
set_option linter.unusedVariables false
set_option linter.unusedSimpArgs false
/-- A reader, in whatever state; block mb may be written beside it. -/
def Rx (mb : Nat) (W : World) (g : Nat) (s0 : List Int) (q : St) : Prop := ∃ w0, Rs w0 W g s0 q ∧ mb < w0.heap.size ∧ 0 ≠ mb
theorem Rx.below {mb : Nat} {W W1 : World} {g : Nat} {s0 : List Int} {q : St} (h : Rx mb W g s0 q) (hb : Below W.heap.size W W1) : Rx mb W1 g s0 q := by
  obtain ⟨w0, h1, h2, h3⟩ := h
  exact ⟨w0, h1.below hb, h2, h3⟩
theorem Rx.store {mb : Nat} {W W1 : World} {g : Nat} {s0 : List Int} {q : St} {cs : Array Value} {t : TypeId} (h : Rx mb W g s0 q) (hm : W.heap[mb]? = some (.cells cs t (0, 0))) (hcs : ∀ (i : Nat) (x : Int), cs[i]? ≠ some (Value.int .u8 x)) (hW : KeepBut W W1 mb none) : Rx mb W1 g s0 q := by
  obtain ⟨w0, ⟨⟨A, c, ev, k1, k2, k3, k4, k5⟩, hb, hG, hin⟩, hmb, he⟩ := h
  have hle : w0.heap.size ≤ W1.heap.size := Nat.le_trans hb.size hW.1
  have hET := hG.lt
  have hsz := truncW_size W1 w0.heap.size hle
  refine ⟨truncW W1 w0.heap.size, ⟨⟨A, c, ev, (hW.2 g (blk_lt k1) (by omega) (by simp)).trans k1, by rw [hsz]; exact k2, ?_, k4, ?_⟩, ⟨rfl, rfl, rfl, by rw [hsz]; exact hle, ?_⟩, ?_, hin⟩, by rw [hsz]; exact hmb, he⟩
  · refine C_move_int k3 (fun ad hA hn => ?_)
    obtain ⟨ad', hA', hcell⟩ := Kd.at_int k3 0 (by decide) (by omega)
    have hadd : ad' = ad := by rw [hA] at hA'; exact (Option.some.inj hA').symm
    subst hadd
    have hlt : ad'.block < w0.heap.size := by
      have := World.block_lt_of_cell? _ _ hcell
      rwa [add_block] at this
    have hW0 : W.heap[ad'.block]? = w0.heap[ad'.block]? := hb.block _ hlt
    have hne : ad'.block ≠ mb := fun e => by
      have hcW : W.cell? (ad'.add (Int.toNat 0)) = some (.int .u8 (rd s0 0)) := (World.cell?_of_block (w := w0) (by rw [add_block]; exact hW0)).trans hcell
      unfold World.cell? at hcW
      rw [add_block, e, hm] at hcW
      dsimp only at hcW
      split at hcW
      · cases hcW
      · exact hcs _ _ hcW
    exact (truncW_at W1 w0.heap.size _ hle hlt).trans ((hW.2 _ (by have := hb.size; omega) hne (by simp)).trans hW0)
  · rcases k5 with h5 | ⟨hne, k, hk, e5, h5⟩
    · exact .inl h5
    · exact .inr ⟨hne, k, by rw [hsz]; exact hk, e5, (hW.2 k (blk_lt h5) (by omega) (by simp)).trans h5⟩
  · intro k hk
    rw [hsz] at hk
    exact (truncW_at W1 w0.heap.size k hle hk).symm
  · exact (World.cell?_of_block (w := w0) ((truncW_at W1 w0.heap.size _ hle hET).trans ((hW.2 _ (by have := hb.size; omega) he (by simp)).trans (hb.block _ hET)))).trans hG
/-- The state of manifest.read: the reader g, the manifest's block mb (its cells are C), the block rb that names the reader. -/
structure Mr (w W : World) (g mb rb : Nat) (s0 : List Int) (q : St) (C : Array Value) : Prop where
  rx : Rx mb W g s0 q
  mbk : W.heap[mb]? = some (.cells C 27 (0, 0))
  rbk : W.heap[rb]? = some (.cells #[.pointer (some ⟨g, 0, none⟩)] 146 (0, 0))
  bel : Below w.heap.size w W
  mw : w.heap.size ≤ mb
  mg : mb < g
  rg : g < rb
  nb : ∀ (i : Nat) (x : Int), C[i]? ≠ some (Value.int .u8 x)
section
variable {w W W1 : World} {g mb rb : Nat} {s0 : List Int} {q q' : St} {C : Array Value}
theorem Mr.inn (h : Mr w W g mb rb s0 q C) : In s0 q := by
  obtain ⟨⟨w0, h1, _⟩, _⟩ := h
  exact h1.inn
theorem Mr.lt (h : Mr w W g mb rb s0 q C) : g < W.heap.size := by
  obtain ⟨⟨w0, h1, _⟩, _⟩ := h
  exact h1.lt
theorem Mr.rcell (h : Mr w W g mb rb s0 q C) : W.cell? ⟨rb, 0, none⟩ = some (.pointer (some ⟨g, 0, none⟩)) := blk_cell h.rbk 0
theorem Mr.mcell (h : Mr w W g mb rb s0 q C) (i : Nat) : W.cell? ⟨mb, i, none⟩ = C[i]? := blk_cell h.mbk i
theorem Mr.mfree (h : Mr w W g mb rb s0 q C) (i : Nat) : W.frozen? ⟨mb, i, none⟩ = false := blk_frozen h.mbk i
theorem Mr.below (h : Mr w W g mb rb s0 q C) (hb : Below W.heap.size W W1) : Mr w W1 g mb rb s0 q C :=
  ⟨h.rx.below hb, (hb.block _ (blk_lt h.mbk)).trans h.mbk, (hb.block _ (blk_lt h.rbk)).trans h.rbk, below_then h.bel h.bel.size hb, h.mw, h.mg, h.rg, h.nb⟩
theorem Mr.store (h : Mr w W g mb rb s0 q C) (i : Nat) (v : Value) (hv : ∀ x, v ≠ .int .u8 x) : Mr w (W.setCell ⟨mb, i, none⟩ v) g mb rb s0 q (C.setIfInBounds i v) := by
  have hk : KeepBut W (W.setCell ⟨mb, i, none⟩ v) mb none := (KeepBut.refl _ _ _).set_ i v
  refine ⟨h.rx.store h.mbk h.nb hk, ?_, KeepBut.at_ hk h.rbk (by have := h.mg; have := h.rg; omega), h.bel.setCell h.mw v, h.mw, h.mg, h.rg, ?_⟩
  · rw [setCell_eq_setRow _ _ _ _ _ _ _ h.mbk]
    exact setRow_heap _ _ _ _ _ _ h.mbk
  · intro j x hj
    rw [Array.getElem?_setIfInBounds] at hj
    split at hj
    · split at hj
      · exact hv x (Option.some.inj hj)
      · cases hj
    · exact h.nb j x hj
theorem Mr.grown {α : Type} {d : Kd α} {e : Nat} {ok : Nat → Prop} {v : Value} {xs : List α} (h : Mr w W g mb rb s0 q C) (hv : d.R e W (g + 1) ok v xs) (he : e ≠ 184) (h27 : e ≠ 27) (h146 : e ≠ 146) (hg : W.grownBy W1 v.ownBlock) : Mr w W1 g mb rb s0 q C := by
  have hlt := h.lt
  obtain ⟨⟨w0, h1, h2, h3⟩, hm, hr, hb, hmw, hmg, hrg, hnb⟩ := h
  refine ⟨⟨w0, h1.grown hv (Nat.lt_succ_self g) hlt he hg, h2, h3⟩, (hg.block _ (blk_lt hm) (Kd.R_ne hv hm h27)).trans hm, (hg.block _ (blk_lt hr) (Kd.R_ne hv hr h146)).trans hr, hb.grown hg hb.size (fun k hk => ?_), hmw, hmg, hrg, hnb⟩
  have := Kd.R_base hv k hk
  omega
/-- A call that turns the reader alone. -/
theorem Mr.lift {f : FuncId} {args : Array Value} {R : Ending → World → Prop} (h : Mr w W g mb rb s0 q C) (hc : ∀ w0, Rs w0 W g s0 q → Calls Tryz.prog f args W fun e w' => R e w' ∧ Rs w0 w' g s0 q' ∧ KeepBut W w' g none) :
    Calls Tryz.prog f args W fun e w' => R e w' ∧ Mr w w' g mb rb s0 q' C ∧ KeepBut W w' g none := by
  obtain ⟨⟨w0, h1, h2, h3⟩, hm, hr, hb, hmw, hmg, hrg, hnb⟩ := h
  refine (hc w0 h1).mono ?_
  rintro e w' ⟨k1, k2, k3⟩
  exact ⟨k1, ⟨⟨w0, k2, h2, h3⟩, KeepBut.at_ k3 hm (by omega), KeepBut.at_ k3 hr (by omega), base_call hb h1.bel k2.bel k3 (by omega), hmw, hmg, hrg, hnb⟩, k3⟩
/-- A call that turns nothing. -/
theorem Mr.liftB {f : FuncId} {args : Array Value} {R : Ending → Prop} (h : Mr w W g mb rb s0 q C) (hc : ∀ w0, Rs w0 W g s0 q → Calls Tryz.prog f args W fun e w' => R e ∧ Below W.heap.size W w') :
    Calls Tryz.prog f args W fun e w' => R e ∧ Below W.heap.size W w' := by
  obtain ⟨⟨w0, h1, h2, h3⟩, hm, hr, hb, hmw, hmg, hrg, hnb⟩ := h
  exact hc w0 h1
end
section
variable {α β : Type} {d : Kd α} {d' : Kd β} {e e' base base' : Nat} {ok ok' : Nat → Prop} {w W W1 : World} {g mb rb : Nat} {s0 : List Int} {q : St} {C : Array Value} {v u : Value} {xs : List α} {ys : List β}
/-- A made row, past a store into the manifest's block. -/
theorem R_store (h : d.R e W base ok v xs) (hm : Mr w W g mb rb s0 q C) (ht : ∀ t, t ∈ e :: d.E → t ≠ 27) (i : Nat) (x : Value) : d.R e (W.setCell ⟨mb, i, none⟩ x) base ok v xs := Kd.R_set h hm.mbk ht i x
end
set_option maxHeartbeats 1600000 in
set_option maxRecDepth 100000 in
theorem mGood {w W : World} {g mb rb : Nat} {s0 : List Int} {q : St} {C : Array Value} (h : Mr w W g mb rb s0 q C) :
    Calls Tryz.prog 88 #[.pointer (some ⟨rb, 0, none⟩)] W fun e w' => e = .returned (.bool (q.2.1 == 0)) ∧ Below W.heap.size W w' := by
  have HH := Aside0.mk (h.liftB (R := fun e => e = .returned (.tuple #[.int .i64 q.2.1, .int .i64 q.2.2])) (fun w0 H => qErr w0 W g s0 q H))
  have hrb := h.rcell
  clear h
  generalize q.2.1 = x at *
  generalize q.2.2 = y at *
  go_enter Tryz.func88, Tryz.ntmps88
  go_wp2_with fail
  refine HH.out.mono ?_
  rintro e w' ⟨rfl, hb⟩
  have HB := Aside0.mk hb
  clear hb
  go_wp2
  go_ret
  exact ⟨rfl, HB.out⟩
end Go.Proofs.YtjmhiklmlgbifaaGreatDoor.PMan
end

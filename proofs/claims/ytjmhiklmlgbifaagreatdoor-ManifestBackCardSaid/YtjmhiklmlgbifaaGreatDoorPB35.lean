/- Texts of this proof, put into one, without what it does not use: MuG. -/
import Derived.Test.YtjmhiklmlgbifaaGreatDoorPB34
section
namespace Go.Proofs.YtjmhiklmlgbifaaGreatDoor.PMan
open Go.RowKit Go.Proofs.YtjmhiklmlgbifaaGreatDoorW.PrintWords Go.Proofs.YtjmhiklmlgbifaaGreatDoorW.PrintLast Go.Proofs.YtjmhiklmlgbifaaGreatDoorW.PrintMore
attribute [local go_sem] max2_int min2_int max_two min_two
set_option linter.unusedVariables false
set_option linter.unusedSimpArgs false
theorem setCells_row (b : Nat) (t : TypeId) (fr : Nat × Nat) : ∀ (vs : List Value) (o : Nat) (w : World) (cur : Array Value), w.heap[b]? = some (.cells cur t fr) → o + vs.length ≤ cur.size →
    w.setCells b o vs = w.setRow b (cur.toList.take o ++ vs ++ cur.toList.drop (o + vs.length)).toArray
  | [], o, w, cur, h, _ => by
    show w = _
    simp only [List.append_nil, List.length_nil, Nat.add_zero, List.take_append_drop, Array.toArray_toList]
    exact (setRow_self w b cur t fr h).symm
  | v :: r, o, w, cur, h, hl => by
    have hl' : o + (r.length + 1) ≤ cur.size := by simpa using hl
    rw [World.setCells, setCell_eq_setRow w b o cur t fr v h, setCells_row b t fr r (o + 1) _ (cur.setIfInBounds o v) (setRow_heap w b cur _ t fr h) (by rw [Array.size_setIfInBounds]; omega), setRow_setRow]
    congr 2
    have e := list_seg_step cur.toList o v r (by simpa using hl')
    simpa [Array.toList_setIfInBounds, Nat.add_assoc] using e
theorem there_row {w : World} {b o n : Nat} {cur : Array Value} {t : TypeId} (h : w.heap[b]? = some (.cells cur t (0, 0))) (hl : o + n ≤ cur.size) : w.there b o n := fun j hj => by
  refine ⟨?_, blk_frozen h _⟩
  rw [blk_cell h (o + j), Array.getElem?_eq_getElem (by omega)]
  rfl
/-- A store into the middle of a row: the row turned. -/
theorem wpList_store_seg {P : Program} {ops : Array Oper} {rest : List Oper} {op : Oper} {a : Act} {w : World} {Q : Exit → Act → World → Prop} (hgd : op.guard = none) (ty : TypeId) (x y : Operand) (ho : op.op = .store ty x y)
    (b o : Nat) (cells : Array Value) (hx : a.eval x = .pointer (some ⟨b, o, none⟩)) (hy : a.eval y = .agg cells)
    (t : TypeId) (cur : Array Value) (hg : w.heap[b]? = some (.cells cur t (0, 0))) (hfit : o + cells.size ≤ cur.size) (hi : (P.info? ty).map (·.size) = some cells.size) (h1 : cells.all (·.oneCell') = true)
    (new : Array Value) (hnew : (cur.toList.take o ++ cells.toList ++ cur.toList.drop (o + cells.size)).toArray = new)
    (h : wpList P ops Q rest (a.put op.dst undef) (w.setRow b new)) : wpList P ops Q (op :: rest) a w := by
  refine wpList_store_mid hgd ty x y ho b o cells hx hy (there_row hg hfit) hi h1 ?_
  rw [setCells_row b t (0, 0) cells.toList o w cur hg (by simpa using hfit), Array.length_toList, hnew]
  exact h
abbrev zObj (z : S70) : Obj := .cells (zCells z).toArray 70 (0, 0)
theorem zCells_all (z : S70) : (zCells z).toArray.all (·.oneCell') = true := by simp [zCells, Value.oneCell']
set_option maxHeartbeats 8000000 in
set_option maxRecDepth 100000 in
theorem qZone (w0 w : World) (g : Nat) (s0 : List Int) (q : St) (h : Rs w0 w g s0 q) :
    Calls Tryz.prog 122 #[.pointer (some ⟨g, 0, none⟩)] w fun e w' => e = .returned (.agg (zCells (zoneQ s0 q).1).toArray) ∧ Rs w0 w' g s0 (zoneQ s0 q).2 ∧ KeepBut w w' g none := by
  have HR := Aside0.mk h
  have hlt := h.lt
  have hvr := varQ_range h.inn
  obtain ⟨r, hr⟩ : ∃ r, r = zoneQ s0 q := ⟨_, rfl⟩
  rw [← hr]
  unfold zoneQ numQ at hr
  have hF := fun W (H : Rs w0 W g s0 q) => qVar w0 W g s0 q H
  clear h
  obtain ⟨v, q1, hkq⟩ : ∃ k q1, varQ s0 q = (k, q1) := ⟨_, _, rfl⟩
  rw [hkq] at hr hvr
  simp only [hkq] at hF
  dsimp only at hr hvr
  have hxr : 0 ≤ upN 65536 v ∧ upN 65536 v ≤ 65537 := by unfold upN; split <;> omega
  have hmin : (if (65537 : Int) < v then 65537 else v) = upN 65536 v := by
    unfold upN
    by_cases e : (65537 : Int) < v
    · rw [if_pos e, if_pos (by omega)]; rfl
    · rw [if_neg e]
      by_cases e2 : v > 65536
      · rw [if_pos e2]; omega
      · rw [if_neg e2]
  generalize upN 65536 v = x at *
  have hwx : wrap64 x = x := by unfold wrap64; omega
  have HRES := Aside0.mk hr
  have HFX := Aside0.mk hF
  clear hkq hr hF hvr hxr
  go_enter Tryz.func122, Tryz.ntmps122
  go_wp2_with fail
  have hx0 : (w.alloc (.cells #[.int .i64 0, .bool false, .int .i64 0, .int .i64 0, .string ⟨#[]⟩, .int .i64 0, .int .i64 0, .string ⟨#[]⟩] 70)).heap[w.heap.size]? = some (zObj z70) := heap_alloc_new w _
  have hb0 : Below w.heap.size w (w.alloc (.cells #[.int .i64 0, .bool false, .int .i64 0, .int .i64 0, .string ⟨#[]⟩, .int .i64 0, .int .i64 0, .string ⟨#[]⟩] 70)) := below_alloc (Below.refl _ _) _
  generalize w.alloc (.cells #[.int .i64 0, .bool false, .int .i64 0, .int .i64 0, .string ⟨#[]⟩, .int .i64 0, .int .i64 0, .string ⟨#[]⟩] 70) = W0 at *
  refine (HFX.out W0 (HR.out.below hb0)).mono ?_
  rintro e w1 ⟨rfl, hr1, hk1⟩
  have hx1 : w1.heap[w.heap.size]? = some (zObj z70) := KeepBut.at_ hk1 hx0 (by omega)
  have HR1 := Aside0.mk hr1
  have HK1 := Aside0.mk (keep_then (KeepBut.of_below hb0 g none) hk1)
  have HX1 := Aside0.mk hx1
  have p0 : w1.cell? ⟨w.heap.size, 0, none⟩ = some (.int .i64 0) := blk_cell hx1 0
  have f0 := blk_frozen hx1 0
  clear hb0 hx0 hr1 hk1 HFX HR hx1
  go_wp2_with fail
  have HR2 := Aside0.mk (HR1.out.setCell HX1.out (by decide) hlt 0 (.int .i64 x))
  have HX2 : Aside0 ((w1.setCell ⟨w.heap.size, 0, none⟩ (.int .i64 x)).heap[w.heap.size]? = some (zObj ⟨x, false, z68, z68⟩)) := Aside0.mk (by rw [setCell_eq_setRow _ _ _ _ _ _ _ HX1.out]; exact setRow_heap _ _ _ _ _ _ HX1.out)
  have HK2 := Aside0.mk (KeepBut.cell HK1.out (Nat.le_refl _) 0 (.int .i64 x))
  generalize w1.setCell ⟨w.heap.size, 0, none⟩ (.int .i64 x) = W2 at *
  have hfr := fixQ_range HR2.out.inn
  have hF := qFix w0 W2 g s0 q1 HR2.out
  obtain ⟨k, q2, hkq⟩ : ∃ k q2, fixQ s0 q1 = (k, q2) := ⟨_, _, rfl⟩
  rw [hkq] at HRES hF hfr
  dsimp only at HRES hF hfr
  have HF := Aside0.mk hF
  obtain ⟨k0, k1⟩ := hfr
  clear hF hkq p0 f0 hmin hwx
  refine HF.out.mono ?_
  rintro e w3 ⟨rfl, hr3, hk3⟩
  have hx3 := KeepBut.at_ hk3 HX2.out (by omega)
  have HR3 := Aside0.mk hr3
  have HK3 := Aside0.mk (keep_then HK2.out hk3)
  have HX3 := Aside0.mk hx3
  clear hr3 hk3 hx3
  by_cases e0 : k = 0
  · subst e0
    have e := HRES.out
    rw [if_neg (by decide), if_pos rfl] at e
    have HRR := Aside0.mk e
    clear e
    go_wp2_with (first | (refine wpList_load_row rfl 70 (.tmp 2) rfl w.heap.size rfl 70 (zCells ⟨x, false, z68, z68⟩).toArray (0, 0) _ HX3.out Tryz.underlying70 rfl (by kernel_rfl) ?_) | (refine wpList_store_row rfl 70 (.tmp 2) (.tmp 23) rfl w.heap.size (zCells ⟨x, false, z68, z68⟩).toArray rfl rfl 70 _ HX3.out (by kernel_rfl) rfl (zCells_all _) ?_))
    rw [setRow_self w3 w.heap.size _ _ _ HX3.out]
    refine bodyPost_ret (v := .agg (zCells ⟨x, false, z68, z68⟩).toArray) (results_cell_row rfl _ _ w.heap.size 70 (zCells ⟨x, false, z68, z68⟩).toArray (0, 0) _ rfl HX3.out Tryz.underlying70 rfl (by kernel_rfl)) rfl ?_
    rw [HRR.out]
    exact ⟨rfl, HR3.out, HK3.out⟩
  by_cases e1 : k = 1
  · subst e1
    have e := HRES.out
    rw [if_pos rfl] at e
    have HRR := Aside0.mk e
    clear e e0
    have p1 : w3.cell? ⟨w.heap.size, 1, none⟩ = some (.bool false) := blk_cell HX3.out 1
    have f1 := blk_frozen HX3.out 1
    go_wp2_with fail
    have HR4 := Aside0.mk (HR3.out.setCell HX3.out (by decide) hlt 1 (.bool true))
    have HX4 : Aside0 ((w3.setCell ⟨w.heap.size, 1, none⟩ (.bool true)).heap[w.heap.size]? = some (zObj ⟨x, true, z68, z68⟩)) := Aside0.mk (by rw [setCell_eq_setRow _ _ _ _ _ _ _ HX3.out]; exact setRow_heap _ _ _ _ _ _ HX3.out)
    have HK4 := Aside0.mk (KeepBut.cell HK3.out (Nat.le_refl _) 1 (.bool true))
    generalize w3.setCell ⟨w.heap.size, 1, none⟩ (.bool true) = W4 at *
    have hF := qVal w0 W4 g s0 q2 HR4.out
    obtain ⟨v1, q3, hv1⟩ : ∃ v1 q3, valQ s0 q2 = (v1, q3) := ⟨_, _, rfl⟩
    rw [hv1] at HRR hF
    dsimp only at HRR hF
    have HF1 := Aside0.mk hF
    clear hF hv1 p1 f1
    refine HF1.out.mono ?_
    rintro e w5 ⟨rfl, hr5, hk5⟩
    have HR5 := Aside0.mk hr5
    have HK5 := Aside0.mk (keep_then HK4.out hk5)
    have HX5 := Aside0.mk (KeepBut.at_ hk5 HX4.out (by omega))
    clear hr5 hk5
    have hF := qVal w0 w5 g s0 q3 HR5.out
    obtain ⟨v2, q4, hv2⟩ : ∃ v2 q4, valQ s0 q3 = (v2, q4) := ⟨_, _, rfl⟩
    rw [hv2] at HRR hF
    dsimp only at HRR hF
    have HF2 := Aside0.mk hF
    clear hF hv2
    go_wp2_with fail
    refine HF2.out.mono ?_
    rintro e w6 ⟨rfl, hr6, hk6⟩
    have HR6 := Aside0.mk hr6
    have HK6 := Aside0.mk (keep_then HK5.out hk6)
    have HX6 := Aside0.mk (KeepBut.at_ hk6 HX5.out (by omega))
    clear hr6 hk6
    have HX7 := Aside0.mk (setRow_heap w6 w.heap.size _ (zCells ⟨x, true, v1, z68⟩).toArray _ _ HX6.out)
    have HX8 := Aside0.mk (setRow_heap w6 w.heap.size _ (zCells ⟨x, true, v1, v2⟩).toArray _ _ HX6.out)
    go_wp2_with (first | (refine wpList_store_seg rfl 68 (.tmp 21) (.tmp 18) rfl w.heap.size 2 (vCells v1) rfl rfl 70 _ HX6.out (by show 2 + 3 ≤ 8; decide) (by kernel_rfl) (vCells_all _) (zCells ⟨x, true, v1, z68⟩).toArray rfl ?_) | (refine wpList_store_seg rfl 68 (.tmp 22) (.tmp 20) rfl w.heap.size 5 (vCells v2) rfl rfl 70 _ HX7.out (by show 5 + 3 ≤ 8; decide) (by kernel_rfl) (vCells_all _) (zCells ⟨x, true, v1, v2⟩).toArray rfl ?_; rw [setRow_setRow]) | (refine wpList_load_row rfl 70 (.tmp 2) rfl w.heap.size rfl 70 (zCells ⟨x, true, v1, v2⟩).toArray (0, 0) _ HX8.out Tryz.underlying70 rfl (by kernel_rfl) ?_) | (refine wpList_store_row rfl 70 (.tmp 2) (.tmp 23) rfl w.heap.size (zCells ⟨x, true, v1, v2⟩).toArray rfl rfl 70 _ HX8.out (by kernel_rfl) rfl (zCells_all _) ?_; rw [setRow_setRow]))
    refine bodyPost_ret (v := .agg (zCells ⟨x, true, v1, v2⟩).toArray) (results_cell_row rfl _ _ w.heap.size 70 (zCells ⟨x, true, v1, v2⟩).toArray (0, 0) _ rfl HX8.out Tryz.underlying70 rfl (by kernel_rfl)) rfl ?_
    rw [HRR.out]
    exact ⟨rfl, HR6.out.setRow HX6.out (by decide) hlt _, KeepBut.row HK6.out (Nat.le_refl _) _⟩
  · have e := HRES.out
    rw [if_neg e1, if_neg e0] at e
    have HRR := Aside0.mk e
    have b0 : (k == 0) = false := beq_eq_false_iff_ne.2 e0
    have b1 : (k == 1) = false := beq_eq_false_iff_ne.2 e1
    have HF1 := Aside0.mk (qFail 4 w0 w3 g s0 q2 HR3.out)
    clear e e0 e1
    generalize failQ 4 q2 = q3 at *
    go_wp2_with fail
    refine HF1.out.mono ?_
    rintro e w4 ⟨rfl, hr4, hk4⟩
    have HR4 := Aside0.mk hr4
    have HK4 := Aside0.mk (keep_then HK3.out hk4)
    have HX4 := Aside0.mk (KeepBut.at_ hk4 HX3.out (by omega))
    clear hr4 hk4
    go_wp2_with (first | (refine wpList_load_row rfl 70 (.tmp 2) rfl w.heap.size rfl 70 (zCells ⟨x, false, z68, z68⟩).toArray (0, 0) _ HX4.out Tryz.underlying70 rfl (by kernel_rfl) ?_) | (refine wpList_store_row rfl 70 (.tmp 2) (.tmp 23) rfl w.heap.size (zCells ⟨x, false, z68, z68⟩).toArray rfl rfl 70 _ HX4.out (by kernel_rfl) rfl (zCells_all _) ?_))
    rw [setRow_self w4 w.heap.size _ _ _ HX4.out]
    refine bodyPost_ret (v := .agg (zCells ⟨x, false, z68, z68⟩).toArray) (results_cell_row rfl _ _ w.heap.size 70 (zCells ⟨x, false, z68, z68⟩).toArray (0, 0) _ rfl HX4.out Tryz.underlying70 rfl (by kernel_rfl)) rfl ?_
    rw [HRR.out]
    exact ⟨rfl, HR4.out, HK4.out⟩
end Go.Proofs.YtjmhiklmlgbifaaGreatDoor.PMan
end

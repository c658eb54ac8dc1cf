/- Texts, put into one. -/
import Derived.Test.YtjmhiklmlgbifaaGreatDoorPT31
import Derived.Test.YtjmhiklmlgbifaaGreatDoorPTW
set_option linter.unusedVariables false
set_option linter.unusedSimpArgs false
open Go Go.RowKit Go.Proofs.YtjmhiklmlgbifaaGreatDoorW.PrintWords Go.Proofs.YtjmhiklmlgbifaaGreatDoorW.PrintLast Go.Proofs.YtjmhiklmlgbifaaGreatDoorW.PrintMore
namespace Go.Proofs.YtjmhiklmlgbifaaGreatDoor.PMan
section
attribute [local go_sem] max2_int min2_int max_two min_two
set_option maxHeartbeats 1600000 in
set_option maxRecDepth 100000 in
theorem rEnd (w0 w : World) (g : Nat) (s0 : List Int) (q : St) (h : Rr w0 w g s0 q) :
  Calls Tryz.prog 63 #[.pointer (some ⟨g, 0, none⟩)] w fun e w' => ∃ p, e = .returned (.tuple #[.int .i64 (endQ s0 q), .int .i64 p]) ∧ Below w.heap.size w w' := by
 obtain ⟨r, hr⟩ : ∃ r, r = endQ s0 q := ⟨_, rfl⟩
 rw [← hr]
 unfold endQ at hr
 obtain ⟨A, c, k1, k2, k3, k4⟩ := h.rd
 have c0 := blk_cell k1 0
 have c1 := blk_cell k1 1
 have c2 := blk_cell k1 2
 have c3 := blk_cell k1 3
 simp only [List.getElem?_toArray] at c0 c1 c2 c3
 have c0 : w.cell? ⟨g, 0, none⟩ = some (.slice A s0.length c) := c0
 have c1 : w.cell? ⟨g, 1, none⟩ = some (.int .i64 q.1) := c1
 have c2 : w.cell? ⟨g, 2, none⟩ = some (.int .i64 q.2.1) := c2
 have c3 : w.cell? ⟨g, 3, none⟩ = some (.int .i64 q.2.2) := c3
 clear k1 k2 k3 k4 h
 obtain ⟨q0, qe, qp⟩ := q
 dsimp only at *
 by_cases hz : qe = 0
 ·subst hz
  rw [if_pos rfl] at hr
  by_cases hp : q0 < (s0.length : Int)
  ·rw [if_pos hp] at hr
   have hd : decide (q0 < (s0.length : Int)) = true := decide_eq_true hp
   have HRR := am hr
   clear hr
   go_enter Tryz.func63, Tryz.ntmps63
   go_wp2
   go_quiet (fail)
   go_wp2
   go_quiet (fail)
   go_wp2
   go_ret2
   rw [HRR.out]
   exact ⟨_, rfl, by first | exact pw_below_drewN (Below.refl _ _) _ | exact Below.trans (pw_below_drewN (Below.refl _ _) _) (pw_below_drewN (Below.refl _ _) _)⟩
  ·rw [if_neg hp] at hr
   have hd : decide (q0 < (s0.length : Int)) = false := decide_eq_false hp
   have HRR := am hr
   clear hr
   go_enter Tryz.func63, Tryz.ntmps63
   go_wp2
   go_quiet (fail)
   go_wp2
   go_quiet (fail)
   go_wp2
   go_ret2
   rw [HRR.out]
   exact ⟨_, rfl, by first | exact pw_below_drewN (Below.refl _ _) _ | exact Below.trans (pw_below_drewN (Below.refl _ _) _) (pw_below_drewN (Below.refl _ _) _)⟩
 ·have hb : (qe == 0) = false := beq_eq_false_iff_ne.2 hz
  rw [if_neg hz] at hr
  have HRR := am hr
  clear hr hz
  go_enter Tryz.func63, Tryz.ntmps63
  go_wp2
  go_quiet (fail)
  go_wp2
  go_quiet (fail)
  go_wp2
  go_ret2
  rw [HRR.out]
  exact ⟨_, rfl, by first | exact pw_below_drewN (Below.refl _ _) _ | exact Below.trans (pw_below_drewN (Below.refl _ _) _) (pw_below_drewN (Below.refl _ _) _)⟩
def mixH (l : List Int) (i : Nat) : List Int := l.take i ++ zH.drop i
theorem mixH_len (l : List Int) (i : Nat) (h : i ≤ l.length) (h2 : i ≤ 32) : (mixH l i).length = 32 := by
 have hz : zH.length = 32 := rfl
 unfold mixH
 rw [List.length_append, List.length_take, List.length_drop]
 omega
theorem mixH_set (l : List Int) (i : Nat) (h : i < l.length) (h2 : i < 32) : (hashCells (mixH l i)).toArray.setIfInBounds i (.int .u8 (l.getD i 0)) = (hashCells (mixH l (i + 1))).toArray := by
 have hz : zH.length = 32 := rfl
 rw [List.setIfInBounds_toArray]
 congr 1
 unfold hashCells
 rw [← List.map_set]
 congr 1
 unfold mixH
 rw [List.set_append_right _ _ (by rw [List.length_take]; omega), List.length_take, Nat.min_eq_left (by omega), Nat.sub_self, List.drop_eq_getElem_cons (by omega), List.set_cons_zero, List.take_succ_eq_append_getElem h, List.append_assoc, List.getD_eq_getElem?_getD, List.getElem?_eq_getElem h]
 rfl
theorem mixH_end (l x : List Int) (h : (l.length = 32 ∧ x = l) ∨ (l = [] ∧ x = zH)) : mixH l l.length = x := by
 unfold mixH
 rcases h with ⟨h, rfl⟩ | ⟨rfl, rfl⟩
 ·rw [List.take_length, h]
  show x ++ [] = x
  rw [List.append_nil]
 ·rfl
theorem hash_all (l : List Int) : (hashCells l).toArray.all (·.oneCell') = true := by rw [List.all_toArray]; exact List.all_eq_true.2 (hash_one l)
theorem hash_size (l : List Int) (h : l.length = 32) : (hashCells l).toArray.size = 32 := by rw [List.size_toArray, hashCells_length]; exact h
set_option maxHeartbeats 8000000 in
set_option maxRecDepth 100000 in
theorem rHash104 (w0 w : World) (g : Nat) (s0 : List Int) (q : St) (h : Rr w0 w g s0 q) :
  Calls Tryz.prog 104 #[.pointer (some ⟨g, 0, none⟩)] w fun e w' => e = .returned (.agg (hashCells (hashQ s0 q).1).toArray) ∧ Rr w0 w' g s0 (hashQ s0 q).2 ∧ KeepBut w w' g none := by
 have HR := am h
 have hlt := h.lt
 have hq2 : (hashQ s0 q).2 = (takeQ s0 32 q).2 := rfl
 have hl := hashQ_is h.inn
 have hl2 := hashQ_len h.inn
 have hF := fun W (H : Rr w0 W g s0 q) => rTake 32 (by decide) w0 W g s0 q H
 clear h
 rw [hq2]
 generalize (hashQ s0 q).1 = x at *
 obtain ⟨l, q1, hkq⟩ : ∃ k q1, takeQ s0 32 q = (k, q1) := ⟨_, _, rfl⟩
 rw [hkq] at hl ⊢
 simp only [hkq] at hF
 dsimp only at hl ⊢
 have hle : l.length ≤ 32 := by rcases hl with ⟨h, _⟩ | ⟨h, _⟩ <;> simp [h]
 have HEND := am (mixH_end l x hl)
 have HX := am hl2
 have HFX := am hF
 clear hkq hl hF hq2 hl2
 go_enter Tryz.func104, Tryz.ntmps104
 go_wp2_with fail
 have hsz : (w.alloc (.cells #[.int .u8 0, .int .u8 0, .int .u8 0, .int .u8 0, .int .u8 0, .int .u8 0, .int .u8 0, .int .u8 0, .int .u8 0, .int .u8 0, .int .u8 0, .int .u8 0, .int .u8 0, .int .u8 0, .int .u8 0, .int .u8 0, .int .u8 0, .int .u8 0, .int .u8 0, .int .u8 0, .int .u8 0, .int .u8 0, .int .u8 0, .int .u8 0, .int .u8 0, .int .u8 0, .int .u8 0, .int .u8 0, .int .u8 0, .int .u8 0, .int .u8 0, .int .u8 0] 61)).heap.size = w.heap.size + 1 := by simp
 have hb1 : Below w.heap.size w (w.alloc (.cells #[.int .u8 0, .int .u8 0, .int .u8 0, .int .u8 0, .int .u8 0, .int .u8 0, .int .u8 0, .int .u8 0, .int .u8 0, .int .u8 0, .int .u8 0, .int .u8 0, .int .u8 0, .int .u8 0, .int .u8 0, .int .u8 0, .int .u8 0, .int .u8 0, .int .u8 0, .int .u8 0, .int .u8 0, .int .u8 0, .int .u8 0, .int .u8 0, .int .u8 0, .int .u8 0, .int .u8 0, .int .u8 0, .int .u8 0, .int .u8 0, .int .u8 0, .int .u8 0] 61)) := below_alloc (Below.refl _ _) _
 have hx1 : (w.alloc (.cells #[.int .u8 0, .int .u8 0, .int .u8 0, .int .u8 0, .int .u8 0, .int .u8 0, .int .u8 0, .int .u8 0, .int .u8 0, .int .u8 0, .int .u8 0, .int .u8 0, .int .u8 0, .int .u8 0, .int .u8 0, .int .u8 0, .int .u8 0, .int .u8 0, .int .u8 0, .int .u8 0, .int .u8 0, .int .u8 0, .int .u8 0, .int .u8 0, .int .u8 0, .int .u8 0, .int .u8 0, .int .u8 0, .int .u8 0, .int .u8 0, .int .u8 0, .int .u8 0] 61)).heap[w.heap.size]? = some (.cells (hashCells zH).toArray 61 (0, 0)) := heap_alloc_new w _
 have hb2 : Below (w.heap.size + 1) (w.alloc (.cells #[.int .u8 0, .int .u8 0, .int .u8 0, .int .u8 0, .int .u8 0, .int .u8 0, .int .u8 0, .int .u8 0, .int .u8 0, .int .u8 0, .int .u8 0, .int .u8 0, .int .u8 0, .int .u8 0, .int .u8 0, .int .u8 0, .int .u8 0, .int .u8 0, .int .u8 0, .int .u8 0, .int .u8 0, .int .u8 0, .int .u8 0, .int .u8 0, .int .u8 0, .int .u8 0, .int .u8 0, .int .u8 0, .int .u8 0, .int .u8 0, .int .u8 0, .int .u8 0] 61)) ((w.alloc (.cells #[.int .u8 0, .int .u8 0, .int .u8 0, .int .u8 0, .int .u8 0, .int .u8 0, .int .u8 0, .int .u8 0, .int .u8 0, .int .u8 0, .int .u8 0, .int .u8 0, .int .u8 0, .int .u8 0, .int .u8 0, .int .u8 0, .int .u8 0, .int .u8 0, .int .u8 0, .int .u8 0, .int .u8 0, .int .u8 0, .int .u8 0, .int .u8 0, .int .u8 0, .int .u8 0, .int .u8 0, .int .u8 0, .int .u8 0, .int .u8 0, .int .u8 0, .int .u8 0] 61)).alloc (.cells #[.int .u8 0, .int .u8 0, .int .u8 0, .int .u8 0, .int .u8 0, .int .u8 0, .int .u8 0, .int .u8 0, .int .u8 0, .int .u8 0, .int .u8 0, .int .u8 0, .int .u8 0, .int .u8 0, .int .u8 0, .int .u8 0, .int .u8 0, .int .u8 0, .int .u8 0, .int .u8 0, .int .u8 0, .int .u8 0, .int .u8 0, .int .u8 0, .int .u8 0, .int .u8 0, .int .u8 0, .int .u8 0, .int .u8 0, .int .u8 0, .int .u8 0, .int .u8 0] 61)) := hsz ▸ below_alloc (Below.refl _ _) _
 have hx2 : ((w.alloc (.cells #[.int .u8 0, .int .u8 0, .int .u8 0, .int .u8 0, .int .u8 0, .int .u8 0, .int .u8 0, .int .u8 0, .int .u8 0, .int .u8 0, .int .u8 0, .int .u8 0, .int .u8 0, .int .u8 0, .int .u8 0, .int .u8 0, .int .u8 0, .int .u8 0, .int .u8 0, .int .u8 0, .int .u8 0, .int .u8 0, .int .u8 0, .int .u8 0, .int .u8 0, .int .u8 0, .int .u8 0, .int .u8 0, .int .u8 0, .int .u8 0, .int .u8 0, .int .u8 0] 61)).alloc (.cells #[.int .u8 0, .int .u8 0, .int .u8 0, .int .u8 0, .int .u8 0, .int .u8 0, .int .u8 0, .int .u8 0, .int .u8 0, .int .u8 0, .int .u8 0, .int .u8 0, .int .u8 0, .int .u8 0, .int .u8 0, .int .u8 0, .int .u8 0, .int .u8 0, .int .u8 0, .int .u8 0, .int .u8 0, .int .u8 0, .int .u8 0, .int .u8 0, .int .u8 0, .int .u8 0, .int .u8 0, .int .u8 0, .int .u8 0, .int .u8 0, .int .u8 0, .int .u8 0] 61)).heap[w.heap.size + 1]? = some (.cells (hashCells zH).toArray 61 (0, 0)) := by
  have := heap_alloc_new (w.alloc (.cells #[.int .u8 0, .int .u8 0, .int .u8 0, .int .u8 0, .int .u8 0, .int .u8 0, .int .u8 0, .int .u8 0, .int .u8 0, .int .u8 0, .int .u8 0, .int .u8 0, .int .u8 0, .int .u8 0, .int .u8 0, .int .u8 0, .int .u8 0, .int .u8 0, .int .u8 0, .int .u8 0, .int .u8 0, .int .u8 0, .int .u8 0, .int .u8 0, .int .u8 0, .int .u8 0, .int .u8 0, .int .u8 0, .int .u8 0, .int .u8 0, .int .u8 0, .int .u8 0] 61)) (.cells #[.int .u8 0, .int .u8 0, .int .u8 0, .int .u8 0, .int .u8 0, .int .u8 0, .int .u8 0, .int .u8 0, .int .u8 0, .int .u8 0, .int .u8 0, .int .u8 0, .int .u8 0, .int .u8 0, .int .u8 0, .int .u8 0, .int .u8 0, .int .u8 0, .int .u8 0, .int .u8 0, .int .u8 0, .int .u8 0, .int .u8 0, .int .u8 0, .int .u8 0, .int .u8 0, .int .u8 0, .int .u8 0, .int .u8 0, .int .u8 0, .int .u8 0, .int .u8 0] 61)
  rw [hsz] at this
  exact this
 have hbb : Below w.heap.size w ((w.alloc (.cells #[.int .u8 0, .int .u8 0, .int .u8 0, .int .u8 0, .int .u8 0, .int .u8 0, .int .u8 0, .int .u8 0, .int .u8 0, .int .u8 0, .int .u8 0, .int .u8 0, .int .u8 0, .int .u8 0, .int .u8 0, .int .u8 0, .int .u8 0, .int .u8 0, .int .u8 0, .int .u8 0, .int .u8 0, .int .u8 0, .int .u8 0, .int .u8 0, .int .u8 0, .int .u8 0, .int .u8 0, .int .u8 0, .int .u8 0, .int .u8 0, .int .u8 0, .int .u8 0] 61)).alloc (.cells #[.int .u8 0, .int .u8 0, .int .u8 0, .int .u8 0, .int .u8 0, .int .u8 0, .int .u8 0, .int .u8 0, .int .u8 0, .int .u8 0, .int .u8 0, .int .u8 0, .int .u8 0, .int .u8 0, .int .u8 0, .int .u8 0, .int .u8 0, .int .u8 0, .int .u8 0, .int .u8 0, .int .u8 0, .int .u8 0, .int .u8 0, .int .u8 0, .int .u8 0, .int .u8 0, .int .u8 0, .int .u8 0, .int .u8 0, .int .u8 0, .int .u8 0, .int .u8 0] 61)) := hb1.trans (hb2.mono (by omega))
 have HX1 := am ((hb2.block w.heap.size (by omega)).trans hx1)
 have HX2 := am hx2
 have HBB := am hbb
 clear hsz hb1 hx1 hb2 hx2 hbb
 generalize (w.alloc (.cells #[.int .u8 0, .int .u8 0, .int .u8 0, .int .u8 0, .int .u8 0, .int .u8 0, .int .u8 0, .int .u8 0, .int .u8 0, .int .u8 0, .int .u8 0, .int .u8 0, .int .u8 0, .int .u8 0, .int .u8 0, .int .u8 0, .int .u8 0, .int .u8 0, .int .u8 0, .int .u8 0, .int .u8 0, .int .u8 0, .int .u8 0, .int .u8 0, .int .u8 0, .int .u8 0, .int .u8 0, .int .u8 0, .int .u8 0, .int .u8 0, .int .u8 0, .int .u8 0] 61)).alloc (.cells #[.int .u8 0, .int .u8 0, .int .u8 0, .int .u8 0, .int .u8 0, .int .u8 0, .int .u8 0, .int .u8 0, .int .u8 0, .int .u8 0, .int .u8 0, .int .u8 0, .int .u8 0, .int .u8 0, .int .u8 0, .int .u8 0, .int .u8 0, .int .u8 0, .int .u8 0, .int .u8 0, .int .u8 0, .int .u8 0, .int .u8 0, .int .u8 0, .int .u8 0, .int .u8 0, .int .u8 0, .int .u8 0, .int .u8 0, .int .u8 0, .int .u8 0, .int .u8 0] 61) = W2 at *
 refine (HFX.out W2 (HR.out.below HBB.out)).mono ?_
 rintro e w3 ⟨vv, rfl, hv, hr3, hk3⟩
 obtain ⟨A, c, rfl⟩ := Kd.R_slice hv
 have HR3 := am hr3
 have HK3 := am (keep_then (KeepBut.of_below HBB.out g none) hk3)
 have HX3 := am (KeepBut.at_ hk3 HX1.out (by omega))
 have HY3 := am (KeepBut.at_ hk3 HX2.out (by omega))
 have HV3 := am hv
 clear hv hr3 hk3 HX1 HX2 HBB
 go_wp2_with fail
 go_loopw [5] (fun v5 w' => ∃ (i : Nat), i ≤ l.length ∧ v5 = .int .i64 i ∧ Aside0 (Rr w0 w' g s0 q1) ∧ Aside0 (KeepBut w w' g none) ∧ Aside0 (w'.heap[w.heap.size]? = some (.cells (hashCells zH).toArray 61 (0, 0))) ∧ Aside0 (w'.heap[w.heap.size + 1]? = some (.cells (hashCells (mixH l i)).toArray 61 (0, 0))) ∧ Aside0 (Kd.C (Kd.int .u8) w' A l.length l) ∧ Aside0 (∃ B o, Kd.R (Kd.int .u8) 5 w' B o (.slice A l.length c) l)) (fun i _ => l.length - (intOf i).toNat)
 case atStart => exact ⟨0, Nat.zero_le _, rfl, HR3, HK3, HX3, HY3, ⟨(Kd.R_reads' HV3.out).2.2⟩, ⟨_, _, HV3.out⟩⟩
 case round =>
  obtain ⟨i, hi, rfl, HRr, HKr, HXr, HYr, HCr, HVr⟩ := hrel
  by_cases hlt2 : i < l.length
  ·obtain ⟨B, o, hvr⟩ := HVr.out
   have hcells := C_cells HCr.out (by omega)
   obtain ⟨ad, e1, hk⟩ := Kd.at_int HCr.out (i : Int) (by omega) (by omega)
   cases e1
   rw [Int.toNat_natCast] at hk
   have hq : wr.cell? ⟨w.heap.size + 1, i, none⟩ = some (.int .u8 ((mixH l i).getD i 0)) := by
    rw [blk_cell HYr.out i, List.getElem?_toArray]
    unfold hashCells
    rw [List.getElem?_map, List.getD_eq_getElem?_getD, List.getElem?_eq_getElem (by rw [mixH_len l i (by omega) (by omega)]; omega)]
    rfl
   have hf := blk_frozen HYr.out i
   have hrd : rd l (i : Int) = l.getD i 0 := by unfold rd; rw [Int.toNat_natCast]
   rw [hrd] at hk
   have HYs : Aside0 ((wr.setCell ⟨w.heap.size + 1, i, none⟩ (.int .u8 (l.getD i 0))).heap[w.heap.size + 1]? = some (.cells (hashCells (mixH l (i + 1))).toArray 61 (0, 0))) := am (by rw [setCell_eq_setRow _ _ _ _ _ _ _ HYr.out]; exact (setRow_heap _ _ _ _ _ _ HYr.out).trans (by rw [mixH_set l i (by omega) (by omega)]))
   have HXs := am ((Below.heap_setCell wr ⟨w.heap.size + 1, i, none⟩ (.int .u8 (l.getD i 0)) w.heap.size (by show w.heap.size ≠ w.heap.size + 1; omega)).trans HXr.out)
   have HRs := am (HRr.out.setCell (b := w.heap.size + 1) (by omega) i (.int .u8 (l.getD i 0)))
   have HKs := am (KeepBut.cell HKr.out (b := w.heap.size + 1) (by omega) i (.int .u8 (l.getD i 0)))
   have hvs := Kd.R_set hvr HYr.out (by decide) i (.int .u8 (l.getD i 0))
   have HVs := am hvs
   have HCs := am ((Kd.R_reads' hvs).2.2)
   clear hvr hvs hcells hrd
   generalize l.getD i 0 = xi at *
   generalize (mixH l i).getD i 0 = yi at *
   go_wp2
   go_roundw
   case rel => exact ⟨i + 1, by omega, by go_num, HRs, HKs, HXs, HYs, HCs, ⟨_, _, HVs.out⟩⟩
   case measure => simp [intOf]; omega
  ·obtain rfl : i = l.length := by omega
   rw [HEND.out] at HYr
   have HXe := am (setRow_heap wr w.heap.size _ (hashCells x).toArray _ _ HXr.out)
   have HRe := am (HRr.out.setRow (b := w.heap.size) hlt (hashCells x).toArray)
   have HKe := am (KeepBut.row HKr.out (Nat.le_refl _) (hashCells x).toArray)
   go_wp2_with (first | (refine wpList_load_row rfl 61 (.tmp 3) rfl (w.heap.size + 1) rfl 61 (hashCells x).toArray (0, 0) _ HYr.out Tryz.underlying61 rfl (by rw [hash_size x HX.out]; kernel_rfl) ?_) | (refine wpList_store_row rfl 61 (.tmp 2) (.tmp 20) rfl w.heap.size (hashCells x).toArray rfl rfl 61 _ HXr.out (by rw [hash_size x HX.out]; kernel_rfl) (by rw [hash_size x HX.out]; rfl) (hash_all x) ?_))
   refine bodyPost_ret (v := .agg (hashCells x).toArray) (results_cell_row rfl _ _ w.heap.size 61 (hashCells x).toArray (0, 0) _ rfl HXe.out Tryz.underlying61 rfl (by rw [hash_size x HX.out]; kernel_rfl)) rfl ?_
   exact ⟨rfl, HRe.out, HKe.out⟩
set_option maxHeartbeats 8000000 in
set_option maxRecDepth 100000 in
theorem rHash107 (w0 w : World) (g : Nat) (s0 : List Int) (q : St) (h : Rr w0 w g s0 q) :
  Calls Tryz.prog 107 #[.pointer (some ⟨g, 0, none⟩)] w fun e w' => e = .returned (.agg (hashCells (hashQ s0 q).1).toArray) ∧ Rr w0 w' g s0 (hashQ s0 q).2 ∧ KeepBut w w' g none := by
 have HR := am h
 have hlt := h.lt
 have hq2 : (hashQ s0 q).2 = (takeQ s0 32 q).2 := rfl
 have hl := hashQ_is h.inn
 have hl2 := hashQ_len h.inn
 have hF := fun W (H : Rr w0 W g s0 q) => rTake 32 (by decide) w0 W g s0 q H
 clear h
 rw [hq2]
 generalize (hashQ s0 q).1 = x at *
 obtain ⟨l, q1, hkq⟩ : ∃ k q1, takeQ s0 32 q = (k, q1) := ⟨_, _, rfl⟩
 rw [hkq] at hl ⊢
 simp only [hkq] at hF
 dsimp only at hl ⊢
 have hle : l.length ≤ 32 := by rcases hl with ⟨h, _⟩ | ⟨h, _⟩ <;> simp [h]
 have HEND := am (mixH_end l x hl)
 have HX := am hl2
 have HFX := am hF
 clear hkq hl hF hq2 hl2
 go_enter Tryz.func107, Tryz.ntmps107
 go_wp2_with fail
 have hsz : (w.alloc (.cells #[.int .u8 0, .int .u8 0, .int .u8 0, .int .u8 0, .int .u8 0, .int .u8 0, .int .u8 0, .int .u8 0, .int .u8 0, .int .u8 0, .int .u8 0, .int .u8 0, .int .u8 0, .int .u8 0, .int .u8 0, .int .u8 0, .int .u8 0, .int .u8 0, .int .u8 0, .int .u8 0, .int .u8 0, .int .u8 0, .int .u8 0, .int .u8 0, .int .u8 0, .int .u8 0, .int .u8 0, .int .u8 0, .int .u8 0, .int .u8 0, .int .u8 0, .int .u8 0] 61)).heap.size = w.heap.size + 1 := by simp
 have hb1 : Below w.heap.size w (w.alloc (.cells #[.int .u8 0, .int .u8 0, .int .u8 0, .int .u8 0, .int .u8 0, .int .u8 0, .int .u8 0, .int .u8 0, .int .u8 0, .int .u8 0, .int .u8 0, .int .u8 0, .int .u8 0, .int .u8 0, .int .u8 0, .int .u8 0, .int .u8 0, .int .u8 0, .int .u8 0, .int .u8 0, .int .u8 0, .int .u8 0, .int .u8 0, .int .u8 0, .int .u8 0, .int .u8 0, .int .u8 0, .int .u8 0, .int .u8 0, .int .u8 0, .int .u8 0, .int .u8 0] 61)) := below_alloc (Below.refl _ _) _
 have hx1 : (w.alloc (.cells #[.int .u8 0, .int .u8 0, .int .u8 0, .int .u8 0, .int .u8 0, .int .u8 0, .int .u8 0, .int .u8 0, .int .u8 0, .int .u8 0, .int .u8 0, .int .u8 0, .int .u8 0, .int .u8 0, .int .u8 0, .int .u8 0, .int .u8 0, .int .u8 0, .int .u8 0, .int .u8 0, .int .u8 0, .int .u8 0, .int .u8 0, .int .u8 0, .int .u8 0, .int .u8 0, .int .u8 0, .int .u8 0, .int .u8 0, .int .u8 0, .int .u8 0, .int .u8 0] 61)).heap[w.heap.size]? = some (.cells (hashCells zH).toArray 61 (0, 0)) := heap_alloc_new w _
 have hb2 : Below (w.heap.size + 1) (w.alloc (.cells #[.int .u8 0, .int .u8 0, .int .u8 0, .int .u8 0, .int .u8 0, .int .u8 0, .int .u8 0, .int .u8 0, .int .u8 0, .int .u8 0, .int .u8 0, .int .u8 0, .int .u8 0, .int .u8 0, .int .u8 0, .int .u8 0, .int .u8 0, .int .u8 0, .int .u8 0, .int .u8 0, .int .u8 0, .int .u8 0, .int .u8 0, .int .u8 0, .int .u8 0, .int .u8 0, .int .u8 0, .int .u8 0, .int .u8 0, .int .u8 0, .int .u8 0, .int .u8 0] 61)) ((w.alloc (.cells #[.int .u8 0, .int .u8 0, .int .u8 0, .int .u8 0, .int .u8 0, .int .u8 0, .int .u8 0, .int .u8 0, .int .u8 0, .int .u8 0, .int .u8 0, .int .u8 0, .int .u8 0, .int .u8 0, .int .u8 0, .int .u8 0, .int .u8 0, .int .u8 0, .int .u8 0, .int .u8 0, .int .u8 0, .int .u8 0, .int .u8 0, .int .u8 0, .int .u8 0, .int .u8 0, .int .u8 0, .int .u8 0, .int .u8 0, .int .u8 0, .int .u8 0, .int .u8 0] 61)).alloc (.cells #[.int .u8 0, .int .u8 0, .int .u8 0, .int .u8 0, .int .u8 0, .int .u8 0, .int .u8 0, .int .u8 0, .int .u8 0, .int .u8 0, .int .u8 0, .int .u8 0, .int .u8 0, .int .u8 0, .int .u8 0, .int .u8 0, .int .u8 0, .int .u8 0, .int .u8 0, .int .u8 0, .int .u8 0, .int .u8 0, .int .u8 0, .int .u8 0, .int .u8 0, .int .u8 0, .int .u8 0, .int .u8 0, .int .u8 0, .int .u8 0, .int .u8 0, .int .u8 0] 61)) := hsz ▸ below_alloc (Below.refl _ _) _
 have hx2 : ((w.alloc (.cells #[.int .u8 0, .int .u8 0, .int .u8 0, .int .u8 0, .int .u8 0, .int .u8 0, .int .u8 0, .int .u8 0, .int .u8 0, .int .u8 0, .int .u8 0, .int .u8 0, .int .u8 0, .int .u8 0, .int .u8 0, .int .u8 0, .int .u8 0, .int .u8 0, .int .u8 0, .int .u8 0, .int .u8 0, .int .u8 0, .int .u8 0, .int .u8 0, .int .u8 0, .int .u8 0, .int .u8 0, .int .u8 0, .int .u8 0, .int .u8 0, .int .u8 0, .int .u8 0] 61)).alloc (.cells #[.int .u8 0, .int .u8 0, .int .u8 0, .int .u8 0, .int .u8 0, .int .u8 0, .int .u8 0, .int .u8 0, .int .u8 0, .int .u8 0, .int .u8 0, .int .u8 0, .int .u8 0, .int .u8 0, .int .u8 0, .int .u8 0, .int .u8 0, .int .u8 0, .int .u8 0, .int .u8 0, .int .u8 0, .int .u8 0, .int .u8 0, .int .u8 0, .int .u8 0, .int .u8 0, .int .u8 0, .int .u8 0, .int .u8 0, .int .u8 0, .int .u8 0, .int .u8 0] 61)).heap[w.heap.size + 1]? = some (.cells (hashCells zH).toArray 61 (0, 0)) := by
  have := heap_alloc_new (w.alloc (.cells #[.int .u8 0, .int .u8 0, .int .u8 0, .int .u8 0, .int .u8 0, .int .u8 0, .int .u8 0, .int .u8 0, .int .u8 0, .int .u8 0, .int .u8 0, .int .u8 0, .int .u8 0, .int .u8 0, .int .u8 0, .int .u8 0, .int .u8 0, .int .u8 0, .int .u8 0, .int .u8 0, .int .u8 0, .int .u8 0, .int .u8 0, .int .u8 0, .int .u8 0, .int .u8 0, .int .u8 0, .int .u8 0, .int .u8 0, .int .u8 0, .int .u8 0, .int .u8 0] 61)) (.cells #[.int .u8 0, .int .u8 0, .int .u8 0, .int .u8 0, .int .u8 0, .int .u8 0, .int .u8 0, .int .u8 0, .int .u8 0, .int .u8 0, .int .u8 0, .int .u8 0, .int .u8 0, .int .u8 0, .int .u8 0, .int .u8 0, .int .u8 0, .int .u8 0, .int .u8 0, .int .u8 0, .int .u8 0, .int .u8 0, .int .u8 0, .int .u8 0, .int .u8 0, .int .u8 0, .int .u8 0, .int .u8 0, .int .u8 0, .int .u8 0, .int .u8 0, .int .u8 0] 61)
  rw [hsz] at this
  exact this
 have hbb : Below w.heap.size w ((w.alloc (.cells #[.int .u8 0, .int .u8 0, .int .u8 0, .int .u8 0, .int .u8 0, .int .u8 0, .int .u8 0, .int .u8 0, .int .u8 0, .int .u8 0, .int .u8 0, .int .u8 0, .int .u8 0, .int .u8 0, .int .u8 0, .int .u8 0, .int .u8 0, .int .u8 0, .int .u8 0, .int .u8 0, .int .u8 0, .int .u8 0, .int .u8 0, .int .u8 0, .int .u8 0, .int .u8 0, .int .u8 0, .int .u8 0, .int .u8 0, .int .u8 0, .int .u8 0, .int .u8 0] 61)).alloc (.cells #[.int .u8 0, .int .u8 0, .int .u8 0, .int .u8 0, .int .u8 0, .int .u8 0, .int .u8 0, .int .u8 0, .int .u8 0, .int .u8 0, .int .u8 0, .int .u8 0, .int .u8 0, .int .u8 0, .int .u8 0, .int .u8 0, .int .u8 0, .int .u8 0, .int .u8 0, .int .u8 0, .int .u8 0, .int .u8 0, .int .u8 0, .int .u8 0, .int .u8 0, .int .u8 0, .int .u8 0, .int .u8 0, .int .u8 0, .int .u8 0, .int .u8 0, .int .u8 0] 61)) := hb1.trans (hb2.mono (by omega))
 have HX1 := am ((hb2.block w.heap.size (by omega)).trans hx1)
 have HX2 := am hx2
 have HBB := am hbb
 clear hsz hb1 hx1 hb2 hx2 hbb
 generalize (w.alloc (.cells #[.int .u8 0, .int .u8 0, .int .u8 0, .int .u8 0, .int .u8 0, .int .u8 0, .int .u8 0, .int .u8 0, .int .u8 0, .int .u8 0, .int .u8 0, .int .u8 0, .int .u8 0, .int .u8 0, .int .u8 0, .int .u8 0, .int .u8 0, .int .u8 0, .int .u8 0, .int .u8 0, .int .u8 0, .int .u8 0, .int .u8 0, .int .u8 0, .int .u8 0, .int .u8 0, .int .u8 0, .int .u8 0, .int .u8 0, .int .u8 0, .int .u8 0, .int .u8 0] 61)).alloc (.cells #[.int .u8 0, .int .u8 0, .int .u8 0, .int .u8 0, .int .u8 0, .int .u8 0, .int .u8 0, .int .u8 0, .int .u8 0, .int .u8 0, .int .u8 0, .int .u8 0, .int .u8 0, .int .u8 0, .int .u8 0, .int .u8 0, .int .u8 0, .int .u8 0, .int .u8 0, .int .u8 0, .int .u8 0, .int .u8 0, .int .u8 0, .int .u8 0, .int .u8 0, .int .u8 0, .int .u8 0, .int .u8 0, .int .u8 0, .int .u8 0, .int .u8 0, .int .u8 0] 61) = W2 at *
 refine (HFX.out W2 (HR.out.below HBB.out)).mono ?_
 rintro e w3 ⟨vv, rfl, hv, hr3, hk3⟩
 obtain ⟨A, c, rfl⟩ := Kd.R_slice hv
 have HR3 := am hr3
 have HK3 := am (keep_then (KeepBut.of_below HBB.out g none) hk3)
 have HX3 := am (KeepBut.at_ hk3 HX1.out (by omega))
 have HY3 := am (KeepBut.at_ hk3 HX2.out (by omega))
 have HV3 := am hv
 clear hv hr3 hk3 HX1 HX2 HBB
 go_wp2_with fail
 go_loopw [5] (fun v5 w' => ∃ (i : Nat), i ≤ l.length ∧ v5 = .int .i64 i ∧ Aside0 (Rr w0 w' g s0 q1) ∧ Aside0 (KeepBut w w' g none) ∧ Aside0 (w'.heap[w.heap.size]? = some (.cells (hashCells zH).toArray 61 (0, 0))) ∧ Aside0 (w'.heap[w.heap.size + 1]? = some (.cells (hashCells (mixH l i)).toArray 61 (0, 0))) ∧ Aside0 (Kd.C (Kd.int .u8) w' A l.length l) ∧ Aside0 (∃ B o, Kd.R (Kd.int .u8) 5 w' B o (.slice A l.length c) l)) (fun i _ => l.length - (intOf i).toNat)
 case atStart => exact ⟨0, Nat.zero_le _, rfl, HR3, HK3, HX3, HY3, ⟨(Kd.R_reads' HV3.out).2.2⟩, ⟨_, _, HV3.out⟩⟩
 case round =>
  obtain ⟨i, hi, rfl, HRr, HKr, HXr, HYr, HCr, HVr⟩ := hrel
  by_cases hlt2 : i < l.length
  ·obtain ⟨B, o, hvr⟩ := HVr.out
   have hcells := C_cells HCr.out (by omega)
   obtain ⟨ad, e1, hk⟩ := Kd.at_int HCr.out (i : Int) (by omega) (by omega)
   cases e1
   rw [Int.toNat_natCast] at hk
   have hq : wr.cell? ⟨w.heap.size + 1, i, none⟩ = some (.int .u8 ((mixH l i).getD i 0)) := by
    rw [blk_cell HYr.out i, List.getElem?_toArray]
    unfold hashCells
    rw [List.getElem?_map, List.getD_eq_getElem?_getD, List.getElem?_eq_getElem (by rw [mixH_len l i (by omega) (by omega)]; omega)]
    rfl
   have hf := blk_frozen HYr.out i
   have hrd : rd l (i : Int) = l.getD i 0 := by unfold rd; rw [Int.toNat_natCast]
   rw [hrd] at hk
   have HYs : Aside0 ((wr.setCell ⟨w.heap.size + 1, i, none⟩ (.int .u8 (l.getD i 0))).heap[w.heap.size + 1]? = some (.cells (hashCells (mixH l (i + 1))).toArray 61 (0, 0))) := am (by rw [setCell_eq_setRow _ _ _ _ _ _ _ HYr.out]; exact (setRow_heap _ _ _ _ _ _ HYr.out).trans (by rw [mixH_set l i (by omega) (by omega)]))
   have HXs := am ((Below.heap_setCell wr ⟨w.heap.size + 1, i, none⟩ (.int .u8 (l.getD i 0)) w.heap.size (by show w.heap.size ≠ w.heap.size + 1; omega)).trans HXr.out)
   have HRs := am (HRr.out.setCell (b := w.heap.size + 1) (by omega) i (.int .u8 (l.getD i 0)))
   have HKs := am (KeepBut.cell HKr.out (b := w.heap.size + 1) (by omega) i (.int .u8 (l.getD i 0)))
   have hvs := Kd.R_set hvr HYr.out (by decide) i (.int .u8 (l.getD i 0))
   have HVs := am hvs
   have HCs := am ((Kd.R_reads' hvs).2.2)
   clear hvr hvs hcells hrd
   generalize l.getD i 0 = xi at *
   generalize (mixH l i).getD i 0 = yi at *
   go_wp2
   go_roundw
   case rel => exact ⟨i + 1, by omega, by go_num, HRs, HKs, HXs, HYs, HCs, ⟨_, _, HVs.out⟩⟩
   case measure => simp [intOf]; omega
  ·obtain rfl : i = l.length := by omega
   rw [HEND.out] at HYr
   have HXe := am (setRow_heap wr w.heap.size _ (hashCells x).toArray _ _ HXr.out)
   have HRe := am (HRr.out.setRow (b := w.heap.size) hlt (hashCells x).toArray)
   have HKe := am (KeepBut.row HKr.out (Nat.le_refl _) (hashCells x).toArray)
   go_wp2_with (first | (refine wpList_load_row rfl 61 (.tmp 3) rfl (w.heap.size + 1) rfl 61 (hashCells x).toArray (0, 0) _ HYr.out Tryz.underlying61 rfl (by rw [hash_size x HX.out]; kernel_rfl) ?_) | (refine wpList_store_row rfl 61 (.tmp 2) (.tmp 20) rfl w.heap.size (hashCells x).toArray rfl rfl 61 _ HXr.out (by rw [hash_size x HX.out]; kernel_rfl) (by rw [hash_size x HX.out]; rfl) (hash_all x) ?_))
   refine bodyPost_ret (v := .agg (hashCells x).toArray) (results_cell_row rfl _ _ w.heap.size 61 (hashCells x).toArray (0, 0) _ rfl HXe.out Tryz.underlying61 rfl (by rw [hash_size x HX.out]; kernel_rfl)) rfl ?_
   exact ⟨rfl, HRe.out, HKe.out⟩
theorem zagR (v : Int) (h0 : 0 ≤ v) (h1 : v < 18446744073709551616) : estreatref01_Zag.f v = some (zagP v) := by
 unfold estreatref01_Zag.f zagP
 have e1 : Int.tmod v 2 = v % 2 := Int.tmod_eq_emod_of_nonneg h0
 have e2 : Int.tdiv v 2 = v / 2 := Int.tdiv_eq_ediv_of_nonneg h0
 have e3 : IntKind.u64.wrap (v / 2) = v / 2 := u64_small _ (by omega) (by omega)
 rw [e1, e2, e3]
 have e4 : wrap64 (v / 2) = v / 2 := by have : 0 ≤ v / 2 := by omega
                                        have : v / 2 < 9223372036854775808 := by omega
                                        unfold wrap64
                                        omega
 rw [e4]
 have e5 : wrap64 (-(v / 2)) = -(v / 2) := by have : 0 ≤ v / 2 := by omega
                                              have : v / 2 < 9223372036854775808 := by omega
                                              unfold wrap64
                                              omega
 rw [e5]
 have e6 : wrap64 (-(v / 2) - 1) = -(v / 2) - 1 := by have : 0 ≤ v / 2 := by omega
                                                      have : v / 2 < 9223372036854775808 := by omega
                                                      unfold wrap64
                                                      omega
 rw [e6]
 split <;> rfl
set_option maxHeartbeats 8000000 in
set_option maxRecDepth 100000 in
theorem rVal (w0 w : World) (g : Nat) (s0 : List Int) (q : St) (h : Rr w0 w g s0 q) :
  Calls Tryz.prog 105 #[.pointer (some ⟨g, 0, none⟩)] w fun e w' => e = .returned (.agg (vCells (valQ s0 q).1)) ∧ Rr w0 w' g s0 (valQ s0 q).2 ∧ KeepBut w w' g none := by
 have HR := am h
 have hlt := h.lt
 have hfr := fixQ_range h.inn
 have hfw := fix_wrap h.inn
 obtain ⟨r, hr⟩ : ∃ r, r = valQ s0 q := ⟨_, rfl⟩
 rw [← hr]
 unfold valQ at hr
 have hF := fun W (H : Rr w0 W g s0 q) => rFix w0 W g s0 q H
 clear h
 obtain ⟨k, q1, hkq⟩ : ∃ k q1, fixQ s0 q = (k, q1) := ⟨_, _, rfl⟩
 rw [hkq] at hr hfr hfw
 simp only [hkq] at hF
 dsimp only at hr hfr hfw
 clear hkq
 obtain ⟨k0, k1⟩ := hfr
 have HRES := am hr
 have HFX := am hF
 have HFW := am hfw
 clear hr hF hfw
 go_enter Tryz.func105, Tryz.ntmps105
 go_wp2_with fail
 have hx0 : (w.alloc (.cells #[.int .i64 0, .int .i64 0, .string ⟨#[]⟩] 68)).heap[w.heap.size]? = some (vObj z68) := heap_alloc_new w _
 have hb0 : Below w.heap.size w (w.alloc (.cells #[.int .i64 0, .int .i64 0, .string ⟨#[]⟩] 68)) := below_alloc (Below.refl _ _) _
 generalize w.alloc (.cells #[.int .i64 0, .int .i64 0, .string ⟨#[]⟩] 68) = W0 at *
 refine (HFX.out W0 (HR.out.below hb0)).mono ?_
 rintro e w1 ⟨rfl, hr1, hk1⟩
 have HRa := am hr1
 have HKa := am (keep_then (KeepBut.of_below hb0 g none) hk1)
 have HXa : Aside0 (w1.heap[w.heap.size]? = some (vObj z68)) := am (KeepBut.at_ hk1 hx0 (by omega))
 clear hb0 hx0 hr1 hk1 HFX HR
 have hbv : Below w1.heap.size w1 (w1.alloc (.cells (vCells ⟨k, 0, z68.f2⟩) 68)) := below_alloc (Below.refl _ _) _
 have HR1 := am (HRa.out.below hbv)
 have HK1 := am (KeepBut.below_ HKa.out hbv)
 have HX1 := am ((hbv.block _ (blk_lt HXa.out)).trans HXa.out)
 have HY1 : Aside0 ((w1.alloc (.cells (vCells ⟨k, 0, z68.f2⟩) 68)).heap[w1.heap.size]? = some (vObj ⟨k, 0, z68.f2⟩)) := am (heap_alloc_new w1 _)
 have HG4 := am (show g < w1.heap.size by have := HKa.out.1; omega)
 have HL4 := am (show w.heap.size ≤ w1.heap.size from HKa.out.1)
 have HN4 := am (show w.heap.size ≠ w1.heap.size by have := blk_lt HXa.out; omega)
 obtain ⟨b4, hb4⟩ : ∃ b4, b4 = w1.heap.size := ⟨_, rfl⟩
 rw [← hb4] at HY1 HG4 HL4 HN4
 have HB4 := am hb4
 clear hb4
 have hfw := HFW.out
 by_cases e1 : k = 1
 ·subst e1
  have hr := HRES.out
  rw [if_pos rfl] at hr
  have HRR := am hr
  have hvr := varQ_range HR1.out.inn
  have hF := fun W H => rVar w0 W g s0 q1 H
  obtain ⟨v, q2, hvq⟩ : ∃ v q2, varQ s0 q1 = (v, q2) := ⟨_, _, rfl⟩
  rw [hvq] at HRR hvr
  simp only [hvq] at hF
  dsimp only at HRR hvr
  have HFX := am hF
  have HZG := am (zagR v hvr.1 hvr.2)
  clear hr hvq hF hvr hfw
  go_wp2_with (refine wpList_store_row rfl 68 (.tmp 4) (.tmp 9) rfl w1.heap.size (vCells ⟨1, 0, z68.f2⟩) rfl rfl 68 _ (heap_alloc_new w1 _) (by kernel_rfl) rfl (vCells_all _) ?_; rw [World.setRow_alloc_new])
  rw [← HB4.out]
  generalize w1.alloc (.cells (vCells ⟨1, 0, z68.f2⟩) 68) = W1 at *
  refine (HFX.out _ HR1.out).mono ?_
  rintro e w2 ⟨rfl, hr2, hk2⟩
  have HR2a := am hr2
  have HK2a := am (keep_then HK1.out hk2)
  have HX2a := am (KeepBut.at_ hk2 HX1.out (by omega))
  have HY2a := am (KeepBut.at_ hk2 HY1.out (by have := HG4.out; omega))
  clear hr2 hk2
  go_wp2_with fail
  refine (estreatref01_Zag.calls v _ w2 HZG.out).mono ?_
  rintro e w3 ⟨rfl, ⟨nd, rfl⟩⟩
  have HR2 := am (HR2a.out.below (pw_below_drewN (Below.refl _ _) nd))
  have HK2 := am (KeepBut.below_ HK2a.out (pw_below_drewN (Below.refl _ _) nd))
  have HX2 : Aside0 ((w2.drewN nd).heap[w.heap.size]? = some (vObj z68)) := am HX2a.out
  have HY2 : Aside0 ((w2.drewN nd).heap[b4]? = some (vObj ⟨1, 0, z68.f2⟩)) := am HY2a.out
  clear HR2a HK2a HX2a HY2a
  generalize w2.drewN nd = w2 at *
  have c1 : w2.cell? ⟨b4, 1, none⟩ = some (.int .i64 0) := blk_cell HY2.out 1
  have f1 := blk_frozen HY2.out 1
  have HR3 := am (HR2.out.setCell HG4.out 1 (.int .i64 (zagP v)))
  have HX3 := am ((Below.heap_setCell w2 ⟨b4, 1, none⟩ (.int .i64 (zagP v)) w.heap.size HN4.out).trans HX2.out)
  have HY3 : Aside0 ((w2.setCell ⟨b4, 1, none⟩ (.int .i64 (zagP v))).heap[b4]? = some (vObj ⟨1, zagP v, z68.f2⟩)) := am (by rw [setCell_eq_setRow _ _ _ _ _ _ _ HY2.out]; exact setRow_heap _ _ _ _ _ _ HY2.out)
  have HK3 := am (KeepBut.cell HK2.out HL4.out 1 (.int .i64 (zagP v)))
  have c2 := HR3.out.err
  by_cases e2 : q2.2.1 = 0
  ·have HE2 := am e2
   rw [e2] at c2
   clear e2
   go_wp2_with (first | (refine wpList_load_row rfl 68 (.tmp 4) rfl b4 rfl 68 (vCells ⟨1, zagP v, z68.f2⟩) (0, 0) _ HY3.out Tryz.underlying68 rfl (by kernel_rfl) ?_) | (refine wpList_store_row rfl 68 (.tmp 2) (.tmp 32) rfl w.heap.size (vCells ⟨1, zagP v, z68.f2⟩) rfl rfl 68 _ HX3.out (by kernel_rfl) rfl (vCells_all _) ?_))
   refine bodyPost_ret (v := .agg (vCells ⟨1, zagP v, z68.f2⟩)) (results_cell_row rfl _ _ w.heap.size 68 (vCells ⟨1, zagP v, z68.f2⟩) (0, 0) _ rfl (setRow_heap _ w.heap.size _ _ _ _ HX3.out) Tryz.underlying68 rfl (by kernel_rfl)) rfl ?_
   rw [HRR.out, if_pos HE2.out]
   exact ⟨rfl, HR3.out.setRow hlt _, KeepBut.row HK3.out (Nat.le_refl _) _⟩
  ·have HE2 := am e2
   have e2' : (q2.2.1 != 0) = true := by simpa using e2
   clear e2
   go_wp2_with (refine wpList_store_row rfl 68 (.tmp 2) (.tmp 31) rfl w.heap.size (vCells z68) rfl rfl 68 _ HX3.out (by kernel_rfl) rfl (vCells_all _) ?_)
   refine bodyPost_ret (v := .agg (vCells z68)) (results_cell_row rfl _ _ w.heap.size 68 (vCells z68) (0, 0) _ rfl (setRow_heap _ w.heap.size _ _ _ _ HX3.out) Tryz.underlying68 rfl (by kernel_rfl)) rfl ?_
   rw [HRR.out, if_neg HE2.out]
   exact ⟨rfl, HR3.out.setRow hlt _, KeepBut.row HK3.out (Nat.le_refl _) _⟩
 by_cases e2 : k = 2
 ·subst e2
  have hr := HRES.out
  rw [if_neg (by decide), if_pos rfl] at hr
  have HRR := am hr
  have hF := fun W H => rBlob w0 W g s0 q1 H
  obtain ⟨v, q2, hvq⟩ : ∃ v q2, blobQ s0 65536 q1 = (v, q2) := ⟨_, _, rfl⟩
  rw [hvq] at HRR
  simp only [hvq] at hF
  dsimp only at HRR
  have HFX := am hF
  clear hr hvq hF hfw e1
  go_wp2_with (refine wpList_store_row rfl 68 (.tmp 4) (.tmp 9) rfl w1.heap.size (vCells ⟨2, 0, z68.f2⟩) rfl rfl 68 _ (heap_alloc_new w1 _) (by kernel_rfl) rfl (vCells_all _) ?_; rw [World.setRow_alloc_new])
  rw [← HB4.out]
  generalize w1.alloc (.cells (vCells ⟨2, 0, z68.f2⟩) 68) = W1 at *
  refine (HFX.out _ HR1.out).mono ?_
  rintro e w2 ⟨vv, rfl, hv2, hr2, hk2⟩
  obtain ⟨A, c, rfl⟩ := Kd.R_slice hv2
  have hst := Kd.C_string (P := Tryz.prog) (src := 30) (dst := 9) (c := c) Tryz.underlying30 Tryz.underlying5 Tryz.underlying9 (Kd.R_reads' hv2).2.2
  have HR2 := am hr2
  have HK2 := am (keep_then HK1.out hk2)
  have HX2 := am (KeepBut.at_ hk2 HX1.out (by omega))
  have HY2 := am (KeepBut.at_ hk2 HY1.out (by have := HG4.out; omega))
  clear hr2 hk2 hv2
  have c1 : w2.cell? ⟨b4, 2, none⟩ = some (.string ⟨#[]⟩) := blk_cell HY2.out 2
  have f1 := blk_frozen HY2.out 2
  have HR3 := am (HR2.out.setCell HG4.out 2 (.string (strOfNums v)))
  have HX3 := am ((Below.heap_setCell w2 ⟨b4, 2, none⟩ (.string (strOfNums v)) w.heap.size HN4.out).trans HX2.out)
  have HY3 : Aside0 ((w2.setCell ⟨b4, 2, none⟩ (.string (strOfNums v))).heap[b4]? = some (vObj ⟨2, 0, strOfNums v⟩)) := am (by rw [setCell_eq_setRow _ _ _ _ _ _ _ HY2.out]; exact setRow_heap _ _ _ _ _ _ HY2.out)
  have HK3 := am (KeepBut.cell HK2.out HL4.out 2 (.string (strOfNums v)))
  have c2 := HR3.out.err
  by_cases e2 : q2.2.1 = 0
  ·have HE2 := am e2
   rw [e2] at c2
   clear e2
   go_wp2_with (first | (refine wpList_load_row rfl 68 (.tmp 4) rfl b4 rfl 68 (vCells ⟨2, 0, strOfNums v⟩) (0, 0) _ HY3.out Tryz.underlying68 rfl (by kernel_rfl) ?_) | (refine wpList_store_row rfl 68 (.tmp 2) (.tmp 32) rfl w.heap.size (vCells ⟨2, 0, strOfNums v⟩) rfl rfl 68 _ HX3.out (by kernel_rfl) rfl (vCells_all _) ?_))
   refine bodyPost_ret (v := .agg (vCells ⟨2, 0, strOfNums v⟩)) (results_cell_row rfl _ _ w.heap.size 68 (vCells ⟨2, 0, strOfNums v⟩) (0, 0) _ rfl (setRow_heap _ w.heap.size _ _ _ _ HX3.out) Tryz.underlying68 rfl (by kernel_rfl)) rfl ?_
   rw [HRR.out, if_pos HE2.out]
   exact ⟨rfl, HR3.out.setRow hlt _, KeepBut.row HK3.out (Nat.le_refl _) _⟩
  ·have HE2 := am e2
   have e2' : (q2.2.1 != 0) = true := by simpa using e2
   clear e2
   go_wp2_with (refine wpList_store_row rfl 68 (.tmp 2) (.tmp 31) rfl w.heap.size (vCells z68) rfl rfl 68 _ HX3.out (by kernel_rfl) rfl (vCells_all _) ?_)
   refine bodyPost_ret (v := .agg (vCells z68)) (results_cell_row rfl _ _ w.heap.size 68 (vCells z68) (0, 0) _ rfl (setRow_heap _ w.heap.size _ _ _ _ HX3.out) Tryz.underlying68 rfl (by kernel_rfl)) rfl ?_
   rw [HRR.out, if_neg HE2.out]
   exact ⟨rfl, HR3.out.setRow hlt _, KeepBut.row HK3.out (Nat.le_refl _) _⟩
 by_cases e3 : k > 2
 ·have hr := HRES.out
  rw [if_neg e1, if_neg e2, if_neg (by omega)] at hr
  have HRR := am hr
  have b1 : (k == 1) = false := beq_eq_false_iff_ne.2 e1
  have b2 : (k == 2) = false := beq_eq_false_iff_ne.2 e2
  have hF := fun W H => rFail 4 w0 W g s0 q1 H
  have hne := failQ_ne (e := 4) q1 (by decide)
  generalize failQ 4 q1 = q2 at *
  have HFX := am hF
  have HNE := am hne
  clear hr hF hne e1 e2
  go_wp2_with (refine wpList_store_row rfl 68 (.tmp 4) (.tmp 9) rfl w1.heap.size (vCells ⟨k, 0, z68.f2⟩) rfl rfl 68 _ (heap_alloc_new w1 _) (by kernel_rfl) rfl (vCells_all _) ?_; rw [World.setRow_alloc_new])
  rw [← HB4.out]
  generalize w1.alloc (.cells (vCells ⟨k, 0, z68.f2⟩) 68) = W1 at *
  refine (HFX.out _ HR1.out).mono ?_
  rintro e W3 ⟨rfl, hr2, hk2⟩
  have HR3 := am hr2
  have HK3 := am (keep_then HK1.out hk2)
  have HX3 := am (KeepBut.at_ hk2 HX1.out (by omega))
  have HY3 := am (KeepBut.at_ hk2 HY1.out (by have := HG4.out; omega))
  have c2 := HR3.out.err
  have e2' : (q2.2.1 != 0) = true := by simpa using HNE.out
  clear hr2 hk2
  go_wp2_with (refine wpList_store_row rfl 68 (.tmp 2) (.tmp 31) rfl w.heap.size (vCells z68) rfl rfl 68 _ HX3.out (by kernel_rfl) rfl (vCells_all _) ?_)
  refine bodyPost_ret (v := .agg (vCells z68)) (results_cell_row rfl _ _ w.heap.size 68 (vCells z68) (0, 0) _ rfl (setRow_heap _ w.heap.size _ _ _ _ HX3.out) Tryz.underlying68 rfl (by kernel_rfl)) rfl ?_
  rw [HRR.out]
  exact ⟨rfl, HR3.out.setRow hlt _, KeepBut.row HK3.out (Nat.le_refl _) _⟩
 ·obtain rfl : k = 0 := by omega
  have hr := HRES.out
  rw [if_neg (by decide), if_neg (by decide), if_pos rfl] at hr
  have HRR := am hr
  clear hr hfw e1 e2 e3
  have HR3 := HR1
  have HK3 := HK1
  have HX3 := HX1
  have HY3 := HY1
  have c2w := HR3.out.err
  by_cases e2 : q1.2.1 = 0
  ·have HE2 := am e2
   rw [e2] at c2w
   clear e2
   go_wp2_with (first | (refine wpList_store_row rfl 68 (.tmp 4) (.tmp 9) rfl w1.heap.size (vCells ⟨0, 0, z68.f2⟩) rfl rfl 68 _ (heap_alloc_new w1 _) (by kernel_rfl) rfl (vCells_all _) ?_; rw [World.setRow_alloc_new]) | (refine wpList_load_row rfl 68 (.tmp 4) rfl w1.heap.size rfl 68 (vCells z68) (0, 0) _ (HB4.out ▸ HY3.out) Tryz.underlying68 rfl (by kernel_rfl) ?_) | (refine wpList_store_row rfl 68 (.tmp 2) (.tmp 32) rfl w.heap.size (vCells z68) rfl rfl 68 _ HX3.out (by kernel_rfl) rfl (vCells_all _) ?_))
   refine bodyPost_ret (v := .agg (vCells z68)) (results_cell_row rfl _ _ w.heap.size 68 (vCells z68) (0, 0) _ rfl (setRow_heap _ w.heap.size _ _ _ _ HX3.out) Tryz.underlying68 rfl (by kernel_rfl)) rfl ?_
   rw [HRR.out]
   exact ⟨rfl, HR3.out.setRow hlt _, KeepBut.row HK3.out (Nat.le_refl _) _⟩
  ·have HE2 := am e2
   have e2' : (q1.2.1 != 0) = true := by simpa using e2
   clear e2
   go_wp2_with (first | (refine wpList_store_row rfl 68 (.tmp 4) (.tmp 9) rfl w1.heap.size (vCells ⟨0, 0, z68.f2⟩) rfl rfl 68 _ (heap_alloc_new w1 _) (by kernel_rfl) rfl (vCells_all _) ?_; rw [World.setRow_alloc_new]) | (refine wpList_store_row rfl 68 (.tmp 2) (.tmp 31) rfl w.heap.size (vCells z68) rfl rfl 68 _ HX3.out (by kernel_rfl) rfl (vCells_all _) ?_))
   refine bodyPost_ret (v := .agg (vCells z68)) (results_cell_row rfl _ _ w.heap.size 68 (vCells z68) (0, 0) _ rfl (setRow_heap _ w.heap.size _ _ _ _ HX3.out) Tryz.underlying68 rfl (by kernel_rfl)) rfl ?_
   rw [HRR.out]
   exact ⟨rfl, HR3.out.setRow hlt _, KeepBut.row HK3.out (Nat.le_refl _) _⟩
end
end Go.Proofs.YtjmhiklmlgbifaaGreatDoor.PMan

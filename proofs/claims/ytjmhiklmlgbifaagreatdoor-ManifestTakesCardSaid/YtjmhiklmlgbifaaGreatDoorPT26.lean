/- Texts, put into one. -/
import Derived.Test.YtjmhiklmlgbifaaGreatDoorPT24
import Derived.Lib.Zigzag
import Derived.Test.YtjmhiklmlgbifaaGreatDoorPTW
set_option linter.unusedVariables false
set_option linter.unusedSimpArgs false
open Go Go.RowKit Go.Proofs.YtjmhiklmlgbifaaGreatDoorW.PrintWords Go.Proofs.YtjmhiklmlgbifaaGreatDoorW.PrintLast Go.Proofs.YtjmhiklmlgbifaaGreatDoorW.PrintMore
namespace Go.Proofs.YtjmhiklmlgbifaaGreatDoor.PMan
section
attribute [local go_sem] max2_int min2_int max_two min_two
theorem xor_i64_0 (x : Int) (h0 : 0 ≤ x) (h1 : x < 9223372036854775808) : bits .xor .i64 x 0 = x := by
 obtain ⟨n, rfl⟩ := Int.eq_ofNat_of_zero_le h0
 show IntKind.i64.wrap ((BitVec.ofInt 64 (n : Int) ^^^ BitVec.ofInt 64 0).toNat : Int) = _
 have h2 : (BitVec.ofInt 64 (n : Int)).toNat = n := by
  rw [BitVec.ofInt_natCast, BitVec.toNat_ofNat]; exact Nat.mod_eq_of_lt (by omega)
 rw [show BitVec.ofInt 64 0 = 0#64 from rfl, BitVec.xor_zero, h2, IntKind.wrap_i64]
 omega
theorem xor_i64_1 (x : Int) (h0 : 0 ≤ x) (h1 : x < 9223372036854775808) : bits .xor .i64 x (-1) = -x - 1 := by
 obtain ⟨n, rfl⟩ := Int.eq_ofNat_of_zero_le h0
 rw [← Lib.i64_not n (by omega)]
 show IntKind.i64.wrap ((BitVec.ofInt 64 (n : Int) ^^^ BitVec.ofInt 64 (-1)).toNat : Int) = IntKind.i64.wrap ((BitVec.ofInt 64 (-1) ^^^ BitVec.ofInt 64 (n : Int)).toNat : Int)
 rw [BitVec.xor_comm]
theorem zag_bits (v : Int) (h0 : 0 ≤ v) (h1 : v < 18446744073709551616) : bits .xor .i64 (v / 2) (wrap64 (-wrap64 (v % 2))) = zagP v := by
 unfold zagP
 have a0 : 0 ≤ v / 2 := by omega
 have a1 : v / 2 < 9223372036854775808 := by omega
 by_cases h : v % 2 = 0
 ·rw [if_pos h, h, show wrap64 (-wrap64 0) = 0 from by unfold wrap64; omega]
  exact xor_i64_0 (v / 2) a0 a1
 ·rw [if_neg h, show v % 2 = 1 by omega, show wrap64 (-wrap64 1) = -1 from by unfold wrap64; omega]
  exact xor_i64_1 (v / 2) a0 a1
set_option maxHeartbeats 1600000 in
set_option maxRecDepth 100000 in
theorem zag_calls (v : Int) (h0 : 0 ≤ v) (h1 : v < 18446744073709551616) (w : World) : Calls Tryz.prog 142 #[.int .u64 v] w fun e w' => e = .returned (.int .i64 (zagP v)) ∧ w' = w := by
 have e := zag_bits v h0 h1
 have ea := Lib.u64_and1 v h0 h1
 rw [← ea] at e
 have HE := am e
 clear e ea
 go_enter Tryz.func142, Tryz.ntmps142
 go_wp2
 go_ret
 rw [← HE.out]
 exact ⟨rfl, rfl⟩
def vCells (v : S68) : Array Value := #[.int .i64 v.f0, .int .i64 v.f1, .string v.f2]
theorem vCells_all (v : S68) : (vCells v).all (·.oneCell') = true := by simp [vCells, Value.oneCell']
theorem fix_wrap {s0 : List Int} {q : St} (h : In s0 q) : wrap64 (fixQ s0 q).1 = (fixQ s0 q).1 := by
 have := fixQ_range h
 unfold wrap64
 omega
abbrev vObj (v : S68) : Obj := .cells (vCells v) 68 (0, 0)
set_option maxHeartbeats 4000000 in
set_option maxRecDepth 100000 in
theorem qVal (w0 w : World) (g : Nat) (s0 : List Int) (q : St) (h : Rs w0 w g s0 q) :
  Calls Tryz.prog 128 #[.pointer (some ⟨g, 0, none⟩)] w fun e w' => e = .returned (.agg (vCells (valQ s0 q).1)) ∧ Rs w0 w' g s0 (valQ s0 q).2 ∧ KeepBut w w' g none := by
 have HR := am h
 have hlt := h.lt
 have hfr := fixQ_range h.inn
 have hfw := fix_wrap h.inn
 obtain ⟨r, hr⟩ : ∃ r, r = valQ s0 q := ⟨_, rfl⟩
 rw [← hr]
 unfold valQ at hr
 have hF := fun W (H : Rs w0 W g s0 q) => qFix w0 W g s0 q H
 clear h
 obtain ⟨k, q1, hkq⟩ : ∃ k q1, fixQ s0 q = (k, q1) := ⟨_, _, rfl⟩
 rw [hkq] at hr hfr hfw
 simp only [hkq] at hF
 dsimp only at hr hfr hfw
 clear hkq
 obtain ⟨k0, k1⟩ := hfr
 have HRES := am hr
 have HFX := am hF
 have HFW := am hfw
 clear hr hF hfw
 go_enter Tryz.func128, Tryz.ntmps128
 go_wp2_with fail
 have hx0 : (w.alloc (.cells #[.int .i64 0, .int .i64 0, .string ⟨#[]⟩] 68)).heap[w.heap.size]? = some (vObj z68) := heap_alloc_new w _
 have hb0 : Below w.heap.size w (w.alloc (.cells #[.int .i64 0, .int .i64 0, .string ⟨#[]⟩] 68)) := below_alloc (Below.refl _ _) _
 generalize w.alloc (.cells #[.int .i64 0, .int .i64 0, .string ⟨#[]⟩] 68) = W0 at *
 refine (HFX.out W0 (HR.out.below hb0)).mono ?_
 rintro e w1 ⟨rfl, hr1, hk1⟩
 have HR1 := am hr1
 have HK1 := am (keep_then (KeepBut.of_below hb0 g none) hk1)
 have HX1 : Aside0 (w1.heap[w.heap.size]? = some (vObj z68)) := am (KeepBut.at_ hk1 hx0 (by omega))
 clear hb0 hx0 hr1 hk1 HFX HR
 have hfw := HFW.out
 by_cases e1 : k = 1
 ·subst e1
  have hr := HRES.out
  rw [if_pos rfl] at hr
  have HRR := am hr
  have hvr := varQ_range HR1.out.inn
  have hF := fun H => qVar w0 w1 g s0 q1 H
  obtain ⟨v, q2, hvq⟩ : ∃ v q2, varQ s0 q1 = (v, q2) := ⟨_, _, rfl⟩
  rw [hvq] at HRR hvr hF
  dsimp only at HRR hvr hF
  have HFX := am hF
  have HVR := am hvr
  clear hr hvq hF hvr hfw
  go_wp2_with fail
  refine (HFX.out HR1.out).mono ?_
  rintro e w2 ⟨rfl, hr2, hk2⟩
  have HR2 := am hr2
  have HK2 := am (keep_then HK1.out hk2)
  have HX2 := am (KeepBut.at_ hk2 HX1.out (by omega))
  clear hr2 hk2
  go_wp2_with fail
  refine (zag_calls v HVR.out.1 HVR.out.2 w2).mono ?_
  rintro e w3 ⟨rfl, hw⟩
  rw [hw]
  clear hw w3
  go_wp2_with (refine wpList_store_row rfl 68 (.tmp 2) (.tmp 18) rfl w.heap.size (vCells ⟨1, zagP v, z68.f2⟩) rfl rfl 68 _ HX2.out (by kernel_rfl) rfl (vCells_all _) ?_)
  have HR3 := am (HR2.out.setRow HX2.out (by decide) hlt (vCells ⟨1, zagP v, z68.f2⟩))
  have HX3 := am (setRow_heap w2 w.heap.size _ (vCells ⟨1, zagP v, z68.f2⟩) _ _ HX2.out)
  have HK3 := am (KeepBut.row HK2.out (Nat.le_refl _) (vCells ⟨1, zagP v, z68.f2⟩))
  generalize w2.setRow w.heap.size (vCells ⟨1, zagP v, z68.f2⟩) = W3 at *
  refine (qGood w0 _ g s0 q2 HR3.out).mono ?_
  rintro e w4 ⟨rfl, hb4⟩
  have HR4 := am (HR3.out.below hb4)
  have HK4 := am (KeepBut.below_ HK3.out hb4)
  have HX4 : Aside0 (w4.heap[w.heap.size]? = some (vObj ⟨1, zagP v, z68.f2⟩)) := am ((hb4.block _ (blk_lt HX3.out)).trans HX3.out)
  clear hb4
  by_cases e2 : q2.2.1 = 0
  ·have e2' : (q2.2.1 == 0) = true := by simpa using e2
   have HE2 := am e2
   clear e2
   go_wp2_with (first | (refine wpList_load_row rfl 68 (.tmp 2) rfl w.heap.size rfl 68 (vCells ⟨1, zagP v, z68.f2⟩) (0, 0) _ HX4.out Tryz.underlying68 rfl (by kernel_rfl) ?_) | (refine wpList_store_row rfl 68 (.tmp 2) (.tmp 30) rfl w.heap.size (vCells ⟨1, zagP v, z68.f2⟩) rfl rfl 68 _ HX4.out (by kernel_rfl) rfl (vCells_all _) ?_))
   rw [setRow_self w4 w.heap.size _ _ _ HX4.out]
   refine bodyPost_ret (v := .agg (vCells ⟨1, zagP v, z68.f2⟩)) (results_cell_row rfl _ _ w.heap.size 68 (vCells ⟨1, zagP v, z68.f2⟩) (0, 0) _ rfl HX4.out Tryz.underlying68 rfl (by kernel_rfl)) rfl ?_
   rw [HRR.out, if_pos HE2.out]
   exact ⟨rfl, HR4.out, HK4.out⟩
  ·have e2' : (q2.2.1 == 0) = false := beq_eq_false_iff_ne.2 e2
   have HE2 := am e2
   clear e2
   go_wp2_with (refine wpList_store_row rfl 68 (.tmp 2) (.tmp 29) rfl w.heap.size (vCells z68) rfl rfl 68 _ HX4.out (by kernel_rfl) rfl (vCells_all _) ?_)
   refine bodyPost_ret (v := .agg (vCells z68)) (results_cell_row rfl _ _ w.heap.size 68 (vCells z68) (0, 0) _ rfl (setRow_heap w4 w.heap.size _ _ _ _ HX4.out) Tryz.underlying68 rfl (by kernel_rfl)) rfl ?_
   rw [HRR.out, if_neg HE2.out]
   exact ⟨rfl, HR4.out.setRow HX4.out (by decide) hlt _, KeepBut.row HK4.out (Nat.le_refl _) _⟩
 by_cases e2 : k = 2
 ·subst e2
  have hr := HRES.out
  rw [if_neg (by decide), if_pos rfl] at hr
  have HRR := am hr
  have hF := fun H => qBlob 65536 (by decide) (by decide) w0 w1 g s0 q1 H
  obtain ⟨v, q2, hvq⟩ : ∃ v q2, blobQ s0 65536 q1 = (v, q2) := ⟨_, _, rfl⟩
  rw [hvq] at HRR hF
  dsimp only at HRR hF
  have HFX := am hF
  clear hr hvq hF hfw e1
  go_wp2_with fail
  refine (HFX.out HR1.out).mono ?_
  rintro e w2 ⟨vv, rfl, hv2, hr2, hk2⟩
  obtain ⟨A, c, rfl⟩ := Kd.R_slice hv2
  have hst := Kd.C_string (P := Tryz.prog) (src := 30) (dst := 9) (c := c) Tryz.underlying30 Tryz.underlying5 Tryz.underlying9 (Kd.R_reads' hv2).2.2
  have HR2 := am hr2
  have HK2 := am (keep_then HK1.out hk2)
  have HX2 := am (KeepBut.at_ hk2 HX1.out (by omega))
  clear hr2 hk2 hv2
  go_wp2_with (refine wpList_store_row rfl 68 (.tmp 2) (.tmp 25) rfl w.heap.size (vCells ⟨2, 0, strOfNums v⟩) rfl rfl 68 _ HX2.out (by kernel_rfl) rfl (vCells_all _) ?_)
  have HR3 := am (HR2.out.setRow HX2.out (by decide) hlt (vCells ⟨2, 0, strOfNums v⟩))
  have HX3 := am (setRow_heap w2 w.heap.size _ (vCells ⟨2, 0, strOfNums v⟩) _ _ HX2.out)
  have HK3 := am (KeepBut.row HK2.out (Nat.le_refl _) (vCells ⟨2, 0, strOfNums v⟩))
  generalize w2.setRow w.heap.size (vCells ⟨2, 0, strOfNums v⟩) = W3 at *
  refine (qGood w0 _ g s0 q2 HR3.out).mono ?_
  rintro e w4 ⟨rfl, hb4⟩
  have HR4 := am (HR3.out.below hb4)
  have HK4 := am (KeepBut.below_ HK3.out hb4)
  have HX4 : Aside0 (w4.heap[w.heap.size]? = some (vObj ⟨2, 0, strOfNums v⟩)) := am ((hb4.block _ (blk_lt HX3.out)).trans HX3.out)
  clear hb4
  by_cases e2 : q2.2.1 = 0
  ·have e2' : (q2.2.1 == 0) = true := by simpa using e2
   have HE2 := am e2
   clear e2
   go_wp2_with (first | (refine wpList_load_row rfl 68 (.tmp 2) rfl w.heap.size rfl 68 (vCells ⟨2, 0, strOfNums v⟩) (0, 0) _ HX4.out Tryz.underlying68 rfl (by kernel_rfl) ?_) | (refine wpList_store_row rfl 68 (.tmp 2) (.tmp 30) rfl w.heap.size (vCells ⟨2, 0, strOfNums v⟩) rfl rfl 68 _ HX4.out (by kernel_rfl) rfl (vCells_all _) ?_))
   rw [setRow_self w4 w.heap.size _ _ _ HX4.out]
   refine bodyPost_ret (v := .agg (vCells ⟨2, 0, strOfNums v⟩)) (results_cell_row rfl _ _ w.heap.size 68 (vCells ⟨2, 0, strOfNums v⟩) (0, 0) _ rfl HX4.out Tryz.underlying68 rfl (by kernel_rfl)) rfl ?_
   rw [HRR.out, if_pos HE2.out]
   exact ⟨rfl, HR4.out, HK4.out⟩
  ·have e2' : (q2.2.1 == 0) = false := beq_eq_false_iff_ne.2 e2
   have HE2 := am e2
   clear e2
   go_wp2_with (refine wpList_store_row rfl 68 (.tmp 2) (.tmp 29) rfl w.heap.size (vCells z68) rfl rfl 68 _ HX4.out (by kernel_rfl) rfl (vCells_all _) ?_)
   refine bodyPost_ret (v := .agg (vCells z68)) (results_cell_row rfl _ _ w.heap.size 68 (vCells z68) (0, 0) _ rfl (setRow_heap w4 w.heap.size _ _ _ _ HX4.out) Tryz.underlying68 rfl (by kernel_rfl)) rfl ?_
   rw [HRR.out, if_neg HE2.out]
   exact ⟨rfl, HR4.out.setRow HX4.out (by decide) hlt _, KeepBut.row HK4.out (Nat.le_refl _) _⟩
 by_cases e3 : k = 0
 ·subst e3
  have hr := HRES.out
  rw [if_neg (by decide), if_neg (by decide), if_pos rfl] at hr
  have HRR := am hr
  have HR3 := HR1
  have HX3 := HX1
  have HK3 := HK1
  clear hr hfw e1 e2
  go_wp2_with fail
  refine (qGood w0 _ g s0 q1 HR3.out).mono ?_
  rintro e w4 ⟨rfl, hb4⟩
  have HR4 := am (HR3.out.below hb4)
  have HK4 := am (KeepBut.below_ HK3.out hb4)
  have HX4 : Aside0 (w4.heap[w.heap.size]? = some (vObj z68)) := am ((hb4.block _ (blk_lt HX3.out)).trans HX3.out)
  clear hb4
  by_cases e2 : q1.2.1 = 0
  ·have e2' : (q1.2.1 == 0) = true := by simpa using e2
   have HE2 := am e2
   clear e2
   go_wp2_with (first | (refine wpList_load_row rfl 68 (.tmp 2) rfl w.heap.size rfl 68 (vCells z68) (0, 0) _ HX4.out Tryz.underlying68 rfl (by kernel_rfl) ?_) | (refine wpList_store_row rfl 68 (.tmp 2) (.tmp 30) rfl w.heap.size (vCells z68) rfl rfl 68 _ HX4.out (by kernel_rfl) rfl (vCells_all _) ?_))
   rw [setRow_self w4 w.heap.size _ _ _ HX4.out]
   refine bodyPost_ret (v := .agg (vCells z68)) (results_cell_row rfl _ _ w.heap.size 68 (vCells z68) (0, 0) _ rfl HX4.out Tryz.underlying68 rfl (by kernel_rfl)) rfl ?_
   rw [HRR.out]
   exact ⟨rfl, HR4.out, HK4.out⟩
  ·have e2' : (q1.2.1 == 0) = false := beq_eq_false_iff_ne.2 e2
   have HE2 := am e2
   clear e2
   go_wp2_with (refine wpList_store_row rfl 68 (.tmp 2) (.tmp 29) rfl w.heap.size (vCells z68) rfl rfl 68 _ HX4.out (by kernel_rfl) rfl (vCells_all _) ?_)
   refine bodyPost_ret (v := .agg (vCells z68)) (results_cell_row rfl _ _ w.heap.size 68 (vCells z68) (0, 0) _ rfl (setRow_heap w4 w.heap.size _ _ _ _ HX4.out) Tryz.underlying68 rfl (by kernel_rfl)) rfl ?_
   rw [HRR.out]
   exact ⟨rfl, HR4.out.setRow HX4.out (by decide) hlt _, KeepBut.row HK4.out (Nat.le_refl _) _⟩
 ·have hr := HRES.out
  rw [if_neg e1, if_neg e2, if_neg e3] at hr
  have HRR := am hr
  have b1 : (k == 1) = false := beq_eq_false_iff_ne.2 e1
  have b2 : (k == 2) = false := beq_eq_false_iff_ne.2 e2
  have b3 : (k == 0) = false := beq_eq_false_iff_ne.2 e3
  clear hr e1 e2 e3
  go_wp2_with fail
  refine (qFail 4 w0 w1 g s0 q1 HR1.out).mono ?_
  rintro e w2 ⟨rfl, hr2, hk2⟩
  have hq2 := failQ_ne (e := 4) q1 (by decide)
  generalize failQ 4 q1 = q2 at *
  have HR3 := am hr2
  have HK3 := am (keep_then HK1.out hk2)
  have HX3 := am (KeepBut.at_ hk2 HX1.out (by omega))
  clear hr2 hk2 hq2
  go_wp2_with fail
  refine (qGood w0 _ g s0 q2 HR3.out).mono ?_
  rintro e w4 ⟨rfl, hb4⟩
  have HR4 := am (HR3.out.below hb4)
  have HK4 := am (KeepBut.below_ HK3.out hb4)
  have HX4 : Aside0 (w4.heap[w.heap.size]? = some (vObj z68)) := am ((hb4.block _ (blk_lt HX3.out)).trans HX3.out)
  clear hb4
  by_cases e2 : q2.2.1 = 0
  ·have e2' : (q2.2.1 == 0) = true := by simpa using e2
   have HE2 := am e2
   clear e2
   go_wp2_with (first | (refine wpList_load_row rfl 68 (.tmp 2) rfl w.heap.size rfl 68 (vCells z68) (0, 0) _ HX4.out Tryz.underlying68 rfl (by kernel_rfl) ?_) | (refine wpList_store_row rfl 68 (.tmp 2) (.tmp 30) rfl w.heap.size (vCells z68) rfl rfl 68 _ HX4.out (by kernel_rfl) rfl (vCells_all _) ?_))
   rw [setRow_self w4 w.heap.size _ _ _ HX4.out]
   refine bodyPost_ret (v := .agg (vCells z68)) (results_cell_row rfl _ _ w.heap.size 68 (vCells z68) (0, 0) _ rfl HX4.out Tryz.underlying68 rfl (by kernel_rfl)) rfl ?_
   rw [HRR.out]
   exact ⟨rfl, HR4.out, HK4.out⟩
  ·have e2' : (q2.2.1 == 0) = false := beq_eq_false_iff_ne.2 e2
   have HE2 := am e2
   clear e2
   go_wp2_with (refine wpList_store_row rfl 68 (.tmp 2) (.tmp 29) rfl w.heap.size (vCells z68) rfl rfl 68 _ HX4.out (by kernel_rfl) rfl (vCells_all _) ?_)
   refine bodyPost_ret (v := .agg (vCells z68)) (results_cell_row rfl _ _ w.heap.size 68 (vCells z68) (0, 0) _ rfl (setRow_heap w4 w.heap.size _ _ _ _ HX4.out) Tryz.underlying68 rfl (by kernel_rfl)) rfl ?_
   rw [HRR.out]
   exact ⟨rfl, HR4.out.setRow HX4.out (by decide) hlt _, KeepBut.row HK4.out (Nat.le_refl _) _⟩
end
section
attribute [local go_sem] max2_int min2_int max_two min_two
theorem fixQ_ok {s0 : List Int} {q : St} (h : In s0 q) (hn : (fixQ s0 q).1 ≠ 0) : (fixQ s0 q).2.2.1 = 0 := by
 by_cases e : q.2.1 = 0
 ·have hl := takeQ_len 1 (by decide) h
  unfold fixQ at hn ⊢
  rcases hl with ⟨_, h2⟩ | ⟨h1, _⟩
  ·exact h2
  ·rw [h1] at hn
   exact absurd rfl hn
 ·rw [fixQ_err e] at hn
  exact absurd rfl hn
theorem colQ_of {s0 : List Int} {q qa qb qc : St} {k u y : Int} (ha : fixQ s0 q = (k, qa)) (hb : fixQ s0 qa = (u, qb)) (hc : fixQ s0 qb = (y, qc)) : colQ s0 q = (⟨k, u == 1, y - 1⟩, if u > 1 then failQ 4 qc else qc) := by
 unfold colQ
 simp only [ha, hb, hc]
set_option maxHeartbeats 8000000 in
set_option maxRecDepth 100000 in
theorem qSchema (w0 w : World) (g : Nat) (s0 : List Int) (q : St) (h : Rs w0 w g s0 q) :
  Calls Tryz.prog 91 #[.pointer (some ⟨g, 0, none⟩)] w fun e w' => ∃ vv, e = .returned vv ∧ Kd.R k123 123 w' w.heap.size (fun _ => True) vv (schQ s0 q).1 ∧ Rs w0 w' g s0 (schQ s0 q).2 ∧ KeepBut w w' g none := by
 have HR := am h
 have hlt := h.lt
 have hfr := fixQ_range h.inn
 have hfw := fix_wrap h.inn
 have hfe := fixQ_ok h.inn
 obtain ⟨r, hr⟩ : ∃ r, r = schQ s0 q := ⟨_, rfl⟩
 rw [← hr]
 unfold schQ at hr
 have hF := fun W (H : Rs w0 W g s0 q) => qFix w0 W g s0 q H
 clear h
 obtain ⟨n, q1, hkq⟩ : ∃ k q1, fixQ s0 q = (k, q1) := ⟨_, _, rfl⟩
 rw [hkq] at hr hfr hfw hfe
 simp only [hkq] at hF
 dsimp only at hr hfr hfw hfe
 clear hkq
 obtain ⟨n0, n1⟩ := hfr
 have HRES := am hr
 have HFX := am hF
 have HFE := am hfe
 clear hr hF hfe
 go_enter Tryz.func91, Tryz.ntmps91
 go_wp2_with fail
 refine (HFX.out w HR.out).mono ?_
 rintro e w1 ⟨rfl, hr1, hk1⟩
 have HR1 := am hr1
 have HK1 := am hk1
 clear hr1 hk1 HFX HR
 obtain ⟨m, rfl⟩ := Int.eq_ofNat_of_zero_le n0
 rw [Int.toNat_natCast] at HRES
 go_wp2_with fail
 clear hfw n0
 have hm : m < 256 := by omega
 clear n1
 go_loopw [4, 12] (fun vb v12 w' => ∃ (i : Nat) (l : List S123) (q' : St), i ≤ m ∧ v12 = .int .i64 i ∧ Aside0 (Rs w0 w' g s0 q') ∧ Aside0 (KeepBut w w' g none) ∧ Aside0 (Kd.R k123 123 w' w.heap.size (fun _ => True) vb l) ∧ Aside0 (l.length ≤ i) ∧ Aside0 (colsQ s0 (m - i) l q' = colsQ s0 m [] q1) ∧ Aside0 (m ≠ 0 → q'.2.1 = 0)) (fun _ i _ => m - (intOf i).toNat)
 case atStart => exact ⟨0, [], q1, Nat.zero_le _, rfl, HR1, HK1, ⟨Kd.R_nil _ _ _ _ _⟩, ⟨Nat.le_refl _⟩, ⟨rfl⟩, ⟨fun hm => HFE.out (by omega)⟩⟩
 case round =>
  obtain ⟨i, l, q', hi, rfl, HRr, HKr, HV, HLN, HQ, HOK⟩ := hrel
  by_cases hlt2 : i < m
  ·have hq0 := HOK.out (by omega)
   have hi1 := HRr.out.inn
   obtain ⟨k, qa, ha⟩ : ∃ k qa, fixQ s0 q' = (k, qa) := ⟨_, _, rfl⟩
   obtain ⟨u, qb, hb⟩ : ∃ k qb, fixQ s0 qa = (k, qb) := ⟨_, _, rfl⟩
   obtain ⟨y, qc, hc⟩ : ∃ k qc, fixQ s0 qb = (k, qc) := ⟨_, _, rfl⟩
   have ka := fixQ_range hi1
   have ia := fixQ_in hi1
   rw [ha] at ka ia
   have kb := fixQ_range ia
   have ib := fixQ_in ia
   rw [hb] at kb ib
   have kc := fixQ_range ib
   rw [hc] at kc
   have hcq := colQ_of ha hb hc
   have hst : colsQ s0 (m - i) l q' = colsQ s0 (m - (i + 1)) (l ++ [⟨k, u == 1, y - 1⟩]) (if u > 1 then failQ 4 qc else qc) := by
    rw [show m - i = (m - (i + 1)) + 1 by omega, colsQ, if_pos hq0, hcq]
   have HST := am (hst.symm.trans HQ.out)
   have hFa := qFix w0 wr g s0 q' HRr.out
   have hFb := fun W (H : Rs w0 W g s0 qa) => qFix w0 W g s0 qa H
   have hFc := fun W (H : Rs w0 W g s0 qb) => qFix w0 W g s0 qb H
   rw [ha] at hFa
   simp only [hb] at hFb
   simp only [hc] at hFc
   dsimp only at hFa hFb hFc ka kb kc
   have HFA := am hFa
   have HFB := am hFb
   have HFC := am hFc
   have hwk : wrap64 k = k := by unfold wrap64; omega
   have hwy : wrap64 y = y := by unfold wrap64; omega
   have hwy1 : wrap64 (y - 1) = y - 1 := by unfold wrap64; omega
   clear ha hb hc hcq hst hFa hFb hFc ia ib hi1 hq0 HQ HOK ka kb kc
   go_wp2_with fail
   refine HFA.out.mono ?_
   rintro e wa ⟨rfl, hra, hka⟩
   have HRa := am hra
   have HKa := am (keep_then HKr.out hka)
   have HVa := am (R_past HV.out hlt hka)
   clear hra hka
   go_wp2_with fail
   refine (HFB.out wa HRa.out).mono ?_
   rintro e wb ⟨rfl, hrb, hkb⟩
   have HRb := am hrb
   have HKb := am (keep_then HKa.out hkb)
   have HVb := am (R_past HVa.out hlt hkb)
   clear hrb hkb
   go_wp2_with fail
   refine (HFC.out wb HRb.out).mono ?_
   rintro e wc ⟨rfl, hrc, hkc⟩
   have HRc := am hrc
   have HKc := am (keep_then HKb.out hkc)
   have HVc := am (R_past HVb.out hlt hkc)
   clear hrc hkc HFA HFB HFC HRa HRb HKa HKb HVa HVb HKr HV HRr
   by_cases hu : u > 1
   ·have e := HST.out
    rw [if_pos hu] at e
    have hne := failQ_ne (e := 4) qc (by decide)
    rw [colsQ_err hne] at e
    have hF := qFail 4 w0 wc g s0 qc HRc.out
    generalize failQ 4 qc = qd at *
    have hg : (qd.2.1 == 0) = false := beq_eq_false_iff_ne.2 hne
    have HNE := am hne
    have HE := am e
    have HF := am hF
    clear e hF hne HST
    go_wp2_with fail
    refine HF.out.mono ?_
    rintro e wd ⟨rfl, hrd, hkd⟩
    have HRd := am hrd
    have HKd := am (keep_then HKc.out hkd)
    clear hrd hkd
    go_wp2_with fail
    refine (qGood w0 wd g s0 qd HRd.out).mono ?_
    rintro e we ⟨rfl, hbe⟩
    have HRe := am (HRd.out.below hbe)
    have HKe := am (KeepBut.below_ HKd.out hbe)
    clear hbe
    go_wp2
    go_ret
    rw [HRES.out, ← HE.out]
    unfold okL
    dsimp only
    rw [failQ_err HNE.out, if_neg HNE.out]
    exact ⟨_, rfl, Kd.R_nil _ _ _ _ _, HRe.out, HKe.out⟩
   ·have e := HST.out
    rw [if_neg hu] at e
    have HE := am e
    clear e HST
    go_wp2_with fail
    refine (qGood w0 wc g s0 qc HRc.out).mono ?_
    rintro e we ⟨rfl, hbe⟩
    have HRe := am (HRc.out.below hbe)
    have HKe := am (KeepBut.below_ HKc.out hbe)
    have HVe := am (Kd.R_below HVc.out hbe)
    clear hbe
    by_cases hz : qc.2.1 = 0
    ·have hg : (qc.2.1 == 0) = true := by simpa using hz
     have HZ := am hz
     clear hz
     go_wp2_with ((with_reducible refine gate_builtin (b := .append) (xs := #[.tmp 27, .tmp 36]) rfl ?_); at_builtin; refine Kd.R_append k123 (w0 := we) w.heap.size rfl (.tmp 27) (.tmp 36) 22 123 (.agg #[.int .i64 0, .bool false, .int .i64 0]) 24 rfl Tryz.underlying22 (by kernel_rfl) rfl (by decide) (by decide) u4 l (⟨k, u == 1, y - 1⟩ : S123) [.int .i64 k, .bool (u == 1), .int .i64 (y - 1)] (fun _ => True) (fun _ => False) rfl rfl (k123_mkM _ _ _ _) (fun _ h => h.elim) (fun _ _ => trivial) HVe.out (Below.refl _ _) HKe.out.1 (by have := HLN.out; omega) ?_; intro vf wf ho hb hg2 _; have HVf := am ho; have HRf := am (HRe.out.grown HVe.out hlt HKe.out.1 (by decide) hg2); have HKf := am (KeepBut.grown HKe.out HVe.out (Nat.le_refl _) hg2); clear ho hb hg2)
     go_roundw
     case rel => exact ⟨i + 1, _, qc, by omega, by go_num, HRf, HKf, HVf, ⟨by have := HLN.out; rw [List.length_append, List.length_singleton]; omega⟩, HE, ⟨fun _ => HZ.out⟩⟩
     case measure => simp [intOf]; omega
    ·have hg : (qc.2.1 == 0) = false := beq_eq_false_iff_ne.2 hz
     have HZ := am hz
     clear hz
     go_wp2
     go_ret
     have e := HE.out
     rw [colsQ_err HZ.out] at e
     rw [HRES.out, ← e]
     unfold okL
     dsimp only
     rw [failQ_err HZ.out, if_neg HZ.out]
     exact ⟨_, rfl, Kd.R_nil _ _ _ _ _, HRe.out, HKe.out⟩
  ·obtain rfl : i = m := by omega
   have e := HQ.out
   rw [Nat.sub_self, colsQ] at e
   rw [← e] at HRES
   dsimp only at HRES
   clear e HQ HFE HOK
   go_wp2_with fail
   refine (qGood w0 wr g s0 q' HRr.out).mono ?_
   rintro e we ⟨rfl, hbe⟩
   have HRe := am (HRr.out.below hbe)
   have HKe := am (KeepBut.below_ HKr.out hbe)
   have HVe := am (Kd.R_below HV.out hbe)
   clear hbe
   by_cases hz : q'.2.1 = 0
   ·have hg : (q'.2.1 == 0) = true := by simpa using hz
    clear hz
    obtain ⟨A, c, rfl⟩ := Kd.R_slice HVe.out
    have hrd := Kd.R_reads' HVe.out
    have HRD := am hrd
    clear hrd
    go_wp2_with fail
    refine (schema_calls A c l we HRD.out.2.2 HRD.out.2.1 (by have := HLN.out; omega)).mono ?_
    rintro e wf ⟨rfl, hbf⟩
    have HRf := am (HRe.out.below hbf)
    have HKf := am (KeepBut.below_ HKe.out hbf)
    have HVf := am (Kd.R_below HVe.out hbf)
    clear hbf
    have hF := qFail (schemaP l) w0 wf g s0 q' HRf.out
    unfold okL at HRES
    dsimp only at HRES
    generalize schemaP l = sc at *
    generalize failQ sc q' = qf at *
    have HF := am hF
    clear hF
    go_wp2_with fail
    refine HF.out.mono ?_
    rintro e wg ⟨rfl, hrg, hkg⟩
    have HRg := am hrg
    have HKg := am (keep_then HKf.out hkg)
    have HVg := am (R_past HVf.out hlt hkg)
    clear hrg hkg
    go_wp2_with fail
    refine (qGood w0 wg g s0 qf HRg.out).mono ?_
    rintro e wh ⟨rfl, hbh⟩
    have HRh := am (HRg.out.below hbh)
    have HKh := am (KeepBut.below_ HKg.out hbh)
    have HVh := am (Kd.R_below HVg.out hbh)
    clear hbh
    by_cases hz2 : qf.2.1 = 0
    ·have hg2 : (qf.2.1 == 0) = true := by simpa using hz2
     have HZ := am hz2
     clear hz2
     go_wp2
     go_ret
     rw [HRES.out, if_pos HZ.out]
     exact ⟨_, rfl, HVh.out, HRh.out, HKh.out⟩
    ·have hg2 : (qf.2.1 == 0) = false := beq_eq_false_iff_ne.2 hz2
     have HZ := am hz2
     clear hz2
     go_wp2
     go_ret
     rw [HRES.out, if_neg HZ.out]
     exact ⟨_, rfl, Kd.R_nil _ _ _ _ _, HRh.out, HKh.out⟩
   ·have hg : (q'.2.1 == 0) = false := beq_eq_false_iff_ne.2 hz
    have HZ := am hz
    clear hz
    go_wp2_with fail
    refine (qGood w0 we g s0 q' HRe.out).mono ?_
    rintro e wh ⟨rfl, hbh⟩
    have HRh := am (HRe.out.below hbh)
    have HKh := am (KeepBut.below_ HKe.out hbh)
    clear hbh
    go_wp2
    go_ret
    rw [HRES.out]
    unfold okL
    dsimp only
    rw [failQ_err HZ.out, if_neg HZ.out]
    exact ⟨_, rfl, Kd.R_nil _ _ _ _ _, HRh.out, HKh.out⟩
end
end Go.Proofs.YtjmhiklmlgbifaaGreatDoor.PMan

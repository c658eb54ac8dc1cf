/- Texts of this proof, put into one, without what it does not use: ManI. -/
import Derived.Test.YtjmhiklmlgbifaaGreatDoorPB22
import Derived.Outline
section
namespace Go.Proofs.YtjmhiklmlgbifaaGreatDoor.PMan
open Go.RowKit Go.Proofs.YtjmhiklmlgbifaaGreatDoorW.PrintWords Go.Proofs.YtjmhiklmlgbifaaGreatDoorW.PrintLast Go.Proofs.YtjmhiklmlgbifaaGreatDoorW.PrintMore
attribute [local go_sem] max2_int min2_int max_two min_two max_three min_three max_four min_four   -- for this text's walks alone
set_option linter.unusedVariables false
set_option linter.unusedSimpArgs false
theorem lz0 : num_short.f 3 (leastL.drop (0 : Int).toNat) = some (0, 1, 0) := by decide +kernel
theorem lz1 : num_short.f 3 (leastL.drop (1 : Int).toNat) = some (0, 1, 0) := by decide +kernel
theorem lz2 : num_short.f 3 (leastL.drop (2 : Int).toNat) = some (1, 1, 0) := by decide +kernel
theorem lz7 : num_short.f 3 (leastL.drop (7 : Int).toNat) = some (0, 1, 0) := by decide +kernel
theorem lz9 : num_short.f 3 (leastL.drop (9 : Int).toNat) = some (1, 1, 0) := by decide +kernel
set_option maxHeartbeats 8000000 in
set_option maxRecDepth 100000 in
theorem m_read (A0 : Option Addr) (c0 : Nat) (w : World) (hr0 : Kd.C (Kd.int .u8) w A0 leastL.length leastL) (hc0 : leastL.length ≤ c0) (hG : ErrT w) :
    Calls Tryz.prog 54 #[.slice A0 leastL.length c0] w fun ev w' => ∃ s cs e ce, ev = .returned (.tuple #[ManV s cs e ce, .nilIface]) ∧ ManP w' s cs e ce ∧ w.heap.size ≤ s ∧ w.heap.size ≤ e ∧ Below w.heap.size w w' := by
  have HR0 := Aside0.mk hr0
  have HC0 := Aside0.mk hc0
  have HG := Aside0.mk hG
  clear hr0 hc0 hG
  go_enter Tryz.func54, Tryz.ntmps54
  go_wp2_with fail
  have hm0 : (w.alloc (.cells (MCells 0 0 (.slice none 0 0) 0 (.slice none 0 0)) 27)).heap[w.heap.size]? = some (.cells (MCells 0 0 (.slice none 0 0) 0 (.slice none 0 0)) 27 (0, 0)) := heap_alloc_new w _
  have hb0 : Below w.heap.size w (w.alloc (.cells (MCells 0 0 (.slice none 0 0) 0 (.slice none 0 0)) 27)) := below_alloc (Below.refl _ _) _
  have HM0 := Aside0.mk hm0
  have HB0 := Aside0.mk hb0
  have HR1 := Aside0.mk (Kd.C_below HR0.out hb0)
  clear hm0 hb0
  generalize w.alloc (.cells (MCells 0 0 (.slice none 0 0) 0 (.slice none 0 0)) 27) = W0 at *
  refine (rd_new A0 c0 leastL W0 HR1.out HC0.out (by decide)).mono ?_
  rintro e W1 ⟨g, w1, rfl, hrd, h1, h2⟩
  have hal : Below W1.heap.size W1 (W1.alloc (.cells #[.pointer (some ⟨g, 0, none⟩)] 146)).drew := below_drew (below_alloc (Below.refl _ _) _)
  have hW1 : Below W0.heap.size W0 W1 := h1.trans (h2.mono h1.size)
  have hmlt : w.heap.size < W0.heap.size := blk_lt HM0.out
  have hglt := hrd.lt
  have hgge : w1.heap.size ≤ g := by obtain ⟨A, c, ev, k1, k2, k3, k4, k5⟩ := hrd; exact k2
  have HRa := Aside0.mk (RDB.below (show RDB w.heap.size W1 g leastL 0 from ⟨w1, hrd, h2, HG.out.of_below (HB0.out.trans (h1.mono HB0.out.size)), Nat.lt_of_lt_of_le hmlt h1.size, by have := HG.out.lt; omega⟩) hal)
  have HMa := Aside0.mk (show (W1.alloc (.cells #[.pointer (some ⟨g, 0, none⟩)] 146)).drew.heap[w.heap.size]? = _ from (hal.block _ (Nat.lt_of_lt_of_le hmlt hW1.size)).trans ((hW1.block _ hmlt).trans (HM0.out)))
  have HPa := Aside0.mk (show (W1.alloc (.cells #[.pointer (some ⟨g, 0, none⟩)] 146)).drew.heap[W1.heap.size]? = some (.cells #[.pointer (some ⟨g, 0, none⟩)] 146 (0, 0)) from heap_alloc_new W1 _)
  have HBa := Aside0.mk (show Below w.heap.size w (W1.alloc (.cells #[.pointer (some ⟨g, 0, none⟩)] 146)).drew from (HB0.out.trans (hW1.mono HB0.out.size)).trans (hal.mono (Nat.le_trans HB0.out.size hW1.size)))
  have HRG := Aside0.mk (show W1.heap.size ≠ g by omega)
  have HRM := Aside0.mk (show W1.heap.size ≠ w.heap.size by have := hW1.size; omega)
  have HGW := Aside0.mk (show w.heap.size ≤ g by have := HB0.out.size; have := h1.size; omega)
  have HMW := Aside0.mk (show w.heap.size ≤ w.heap.size by omega)
  clear hal hW1 hmlt hglt hgge h1 h2 hrd HM0 HB0 HR1
  go_wp2_with fail
  have hrb : (W1.alloc (.cells #[.pointer (some ⟨g, 0, none⟩)] 146)).drew.cell? ⟨W1.heap.size, 0, none⟩ = some (.pointer (some ⟨g, 0, none⟩)) := blk_cell HPa.out 0
  refine start_ (n := 12) (S := fun w' => w'.cell? ⟨W1.heap.size, 0, none⟩ = some (.pointer (some ⟨g, 0, none⟩))) (ds := []) #[false, false, false, false, false, false, false, false, false, false, false, false] (by kernel_rfl) rfl rfl (hrb) (fun hHeld => ?_)
  generalize (W1.alloc (.cells #[.pointer (some ⟨g, 0, none⟩)] 146)).drew = wa at *
  refine take_ (i := 0) (N := some 15) (v := ?_) (a' := ?_) #[true, false, false, false, false, false, false, false, false, false, false, false] rfl rfl (by kernel_rfl) (fun _ _ _ h => h) (Or.inl ⟨by rfl, ?_⟩) hHeld ?_ ?_
  rotate_left
  · intro w' s0
    go_simp
    with_reducible rfl
  rotate_left
  · simp only [Act.put, List.setIfInBounds_toArray, List.set_cons_zero, List.set_cons_succ, i64_w, i32_w]
    rfl
  refine take_ (i := 2) (N := some 17) (v := ?_) (a' := ?_) #[true, false, true, false, false, false, false, false, false, false, false, false] rfl rfl (by kernel_rfl) (fun _ _ _ h => h) (Or.inl ⟨by rfl, ?_⟩) hHeld ?_ ?_
  rotate_left
  · intro w' s0
    go_simp
    with_reducible rfl
  rotate_left
  · simp only [Act.put, List.setIfInBounds_toArray, List.set_cons_zero, List.set_cons_succ, i64_w, i32_w]
    rfl
  refine take_ (i := 4) (N := some 19) (v := ?_) (a' := ?_) #[true, false, true, false, true, false, false, false, false, false, false, false] rfl rfl (by kernel_rfl) (fun _ _ _ h => h) (Or.inl ⟨by rfl, ?_⟩) hHeld ?_ ?_
  rotate_left
  · intro w' s0
    go_simp
    with_reducible rfl
  rotate_left
  · simp only [Act.put, List.setIfInBounds_toArray, List.set_cons_zero, List.set_cons_succ, i64_w, i32_w]
    rfl
  refine one_ (i := 1) (N := some 16) #[true, true, true, false, true, false, false, false, false, false, false, false] rfl rfl (by kernel_rfl) (by decide) (fun K hK => ?_)
  refine goes_ Tryz.func90 (by kernel_rfl) rfl #[.pointer (some ⟨g, 0, none⟩)] (by rfl) rfl rfl (by simp only [List.map_toArray, List.map_cons, List.map_nil]; rfl) ?_
  with_reducible refine (mr_number w.heap.size g 0 0 1 1 wa rfl HRa.out (by decide) (by decide) (by decide +kernel) lz0 (by decide) (by decide)).mono ?_
  rintro e wb ⟨rfl, hR, hK⟩
  refine ⟨_, rfl, ?_⟩
  have HRb := Aside0.mk hR
  have HMb := Aside0.mk (keep_blk hK.1 HMa.out (Nat.ne_of_lt hR.lt.1))
  have HPb := Aside0.mk (keep_blk hK.1 HPa.out HRG.out)
  have HBb := Aside0.mk (hK.2 w HBa.out HGW.out)
  have hrb : wb.cell? ⟨W1.heap.size, 0, none⟩ = some (.pointer (some ⟨g, 0, none⟩)) := blk_cell HPb.out 0
  clear hR hK
  refine hK.out _ _ (hrb) (fun hHeld => ?_)
  clear hK K
  refine norm_ (a' := ?_) ?_ ?_
  rotate_left
  · show Act.put _ (some 16) _ = _
    simp only [Act.put, List.setIfInBounds_toArray, List.set_cons_zero, List.set_cons_succ, i64_w, i32_w]
    rfl
  refine pure_ (i := 6) (N := some 21) (v := ?_) (a' := ?_) #[true, true, true, false, true, false, true, false, false, false, false, false] rfl rfl (by kernel_rfl) (fun _ _ _ h => h) (Or.inl ⟨by rfl, ?_⟩) ?_ ?_
  rotate_left
  · intro w'
    go_simp
    with_reducible rfl
  rotate_left
  · simp only [Act.put, List.setIfInBounds_toArray, List.set_cons_zero, List.set_cons_succ, i64_w, i32_w]
    rfl
  refine one_ (i := 3) (N := some 18) #[true, true, true, true, true, false, true, false, false, false, false, false] rfl rfl (by kernel_rfl) (by decide) (fun K hK => ?_)
  refine goes_ Tryz.func90 (by kernel_rfl) rfl #[.pointer (some ⟨g, 0, none⟩)] (by rfl) rfl rfl (by simp only [List.map_toArray, List.map_cons, List.map_nil]; rfl) ?_
  with_reducible refine (mr_number w.heap.size g 1 0 1 2 wb rfl HRb.out (by decide) (by decide) (by decide +kernel) lz1 (by decide) (by decide)).mono ?_
  rintro e wc ⟨rfl, hR, hK⟩
  refine ⟨_, rfl, ?_⟩
  have HRc := Aside0.mk hR
  have HMc := Aside0.mk (keep_blk hK.1 HMb.out (Nat.ne_of_lt hR.lt.1))
  have HPc := Aside0.mk (keep_blk hK.1 HPb.out HRG.out)
  have HBc := Aside0.mk (hK.2 w HBb.out HGW.out)
  have hrb : wc.cell? ⟨W1.heap.size, 0, none⟩ = some (.pointer (some ⟨g, 0, none⟩)) := blk_cell HPc.out 0
  clear hR hK
  refine hK.out _ _ (hrb) (fun hHeld => ?_)
  clear hK K
  refine norm_ (a' := ?_) ?_ ?_
  rotate_left
  · show Act.put _ (some 18) _ = _
    simp only [Act.put, List.setIfInBounds_toArray, List.set_cons_zero, List.set_cons_succ, i64_w, i32_w]
    rfl
  refine one_ (i := 5) (N := some 20) #[true, true, true, true, true, true, true, false, false, false, false, false] rfl rfl (by kernel_rfl) (by decide) (fun K hK => ?_)
  refine goes_ Tryz.func90 (by kernel_rfl) rfl #[.pointer (some ⟨g, 0, none⟩)] (by rfl) rfl rfl (by simp only [List.map_toArray, List.map_cons, List.map_nil]; rfl) ?_
  with_reducible refine (mr_number w.heap.size g 2 1 1 3 wc rfl HRc.out (by decide) (by decide) (by decide +kernel) lz2 (by decide) (by decide)).mono ?_
  rintro e wd ⟨rfl, hR, hK⟩
  refine ⟨_, rfl, ?_⟩
  have HRd := Aside0.mk hR
  have HMd := Aside0.mk (keep_blk hK.1 HMc.out (Nat.ne_of_lt hR.lt.1))
  have HPd := Aside0.mk (keep_blk hK.1 HPc.out HRG.out)
  have HBd := Aside0.mk (hK.2 w HBc.out HGW.out)
  have hrb : wd.cell? ⟨W1.heap.size, 0, none⟩ = some (.pointer (some ⟨g, 0, none⟩)) := blk_cell HPd.out 0
  clear hR hK
  have qm : wd.cell? ⟨w.heap.size, 0, none⟩ = some (.int .i64 0) := blk_cell HMd.out 0
  have qf := blk_frozen HMd.out 0
  refine hK.out _ _ (hrb) (fun hHeld => ?_)
  clear hK K
  refine norm_ (a' := ?_) ?_ ?_
  rotate_left
  · show Act.put _ (some 20) _ = _
    simp only [Act.put, List.setIfInBounds_toArray, List.set_cons_zero, List.set_cons_succ, i64_w, i32_w]
    rfl
  refine one_ (i := 7) (N := none) #[true, true, true, true, true, true, true, true, false, false, false, false] rfl rfl (by kernel_rfl) (by decide) (fun K hK => ?_)
  refine skip_ (w1 := ?_) (by rfl) rfl ?_ ?_
  rotate_left
  · go_simp
    rfl
  have hst : KeepBut wd (wd.setCell ⟨w.heap.size, 0, none⟩ (.int .i64 0)) w.heap.size none := (KeepBut.refl _ _ _).set_ 0 _
  have HRe := Aside0.mk (HRd.out.store (by decide) HMd.out (mc_no _ _ _ _ _ _ _ _ _) hst)
  have HMe := Aside0.mk (show (wd.setCell ⟨w.heap.size, 0, none⟩ (.int .i64 0)).heap[w.heap.size]? = some (.cells (MCells 0 0 (.slice none 0 0) 0 (.slice none 0 0)) 27 (0, 0)) from by simpa [MCells] using blk_set HMd.out 0 (.int .i64 0))
  have HPe := Aside0.mk (keep_blk hst HPd.out HRM.out)
  have HBe := Aside0.mk (show Below w.heap.size w (wd.setCell ⟨w.heap.size, 0, none⟩ (.int .i64 0)) from HBd.out.setCell (Nat.le_refl _) _)
  generalize hws : wd.setCell ⟨w.heap.size, 0, none⟩ (.int .i64 0) = we at *
  have hrb : we.cell? ⟨W1.heap.size, 0, none⟩ = some (.pointer (some ⟨g, 0, none⟩)) := blk_cell HPe.out 0
  have qm : we.cell? ⟨w.heap.size, 1, none⟩ = some (.int .i64 0) := blk_cell HMe.out 1
  have qf := blk_frozen HMe.out 1
  refine hK.out _ _ (hrb) (fun hHeld => ?_)
  clear hK K
  refine pure_ (i := 8) (N := some 22) (v := ?_) (a' := ?_) #[true, true, true, true, true, true, true, true, true, false, false, false] rfl rfl (by kernel_rfl) (fun _ _ _ h => h) (Or.inl ⟨by rfl, ?_⟩) ?_ ?_
  rotate_left
  · intro w'
    go_simp
    with_reducible rfl
  rotate_left
  · simp only [Act.put, List.setIfInBounds_toArray, List.set_cons_zero, List.set_cons_succ, i64_w, i32_w]
    rfl
  refine one_ (i := 9) (N := none) #[true, true, true, true, true, true, true, true, true, true, false, false] rfl rfl (by kernel_rfl) (by decide) (fun K hK => ?_)
  refine skip_ (w1 := ?_) (by rfl) rfl ?_ ?_
  rotate_left
  · go_simp
    rfl
  have hst : KeepBut we (we.setCell ⟨w.heap.size, 1, none⟩ (.int .i64 0)) w.heap.size none := (KeepBut.refl _ _ _).set_ 1 _
  have HRf := Aside0.mk (HRe.out.store (by decide) HMe.out (mc_no _ _ _ _ _ _ _ _ _) hst)
  have HMf := Aside0.mk (show (we.setCell ⟨w.heap.size, 1, none⟩ (.int .i64 0)).heap[w.heap.size]? = some (.cells (MCells 0 0 (.slice none 0 0) 0 (.slice none 0 0)) 27 (0, 0)) from by simpa [MCells] using blk_set HMe.out 1 (.int .i64 0))
  have HPf := Aside0.mk (keep_blk hst HPe.out HRM.out)
  have HBf := Aside0.mk (show Below w.heap.size w (we.setCell ⟨w.heap.size, 1, none⟩ (.int .i64 0)) from HBe.out.setCell (Nat.le_refl _) _)
  generalize hws : we.setCell ⟨w.heap.size, 1, none⟩ (.int .i64 0) = wf at *
  have hrb : wf.cell? ⟨W1.heap.size, 0, none⟩ = some (.pointer (some ⟨g, 0, none⟩)) := blk_cell HPf.out 0
  have qm : wf.cell? ⟨w.heap.size, 3, none⟩ = some (.int .i64 0) := blk_cell HMf.out 3
  have qf := blk_frozen HMf.out 3
  refine hK.out _ _ (hrb) (fun hHeld => ?_)
  clear hK K
  refine pure_ (i := 10) (N := some 23) (v := ?_) (a' := ?_) #[true, true, true, true, true, true, true, true, true, true, true, false] rfl rfl (by kernel_rfl) (fun _ _ _ h => h) (Or.inl ⟨by rfl, ?_⟩) ?_ ?_
  rotate_left
  · intro w'
    go_simp
    with_reducible rfl
  rotate_left
  · simp only [Act.put, List.setIfInBounds_toArray, List.set_cons_zero, List.set_cons_succ, i64_w, i32_w]
    rfl
  refine one_ (i := 11) (N := none) #[true, true, true, true, true, true, true, true, true, true, true, true] rfl rfl (by kernel_rfl) (by decide) (fun K hK => ?_)
  refine skip_ (w1 := ?_) (by rfl) rfl ?_ ?_
  rotate_left
  · go_simp
    rfl
  have hst : KeepBut wf (wf.setCell ⟨w.heap.size, 3, none⟩ (.int .i64 1)) w.heap.size none := (KeepBut.refl _ _ _).set_ 3 _
  have HRh := Aside0.mk (HRf.out.store (by decide) HMf.out (mc_no _ _ _ _ _ _ _ _ _) hst)
  have HMh := Aside0.mk (show (wf.setCell ⟨w.heap.size, 3, none⟩ (.int .i64 1)).heap[w.heap.size]? = some (.cells (MCells 0 0 (.slice none 0 0) 1 (.slice none 0 0)) 27 (0, 0)) from by simpa [MCells] using blk_set HMf.out 3 (.int .i64 1))
  have HPh := Aside0.mk (keep_blk hst HPf.out HRM.out)
  have HBh := Aside0.mk (show Below w.heap.size w (wf.setCell ⟨w.heap.size, 3, none⟩ (.int .i64 1)) from HBf.out.setCell (Nat.le_refl _) _)
  generalize hws : wf.setCell ⟨w.heap.size, 3, none⟩ (.int .i64 1) = wh at *
  have hrb : wh.cell? ⟨W1.heap.size, 0, none⟩ = some (.pointer (some ⟨g, 0, none⟩)) := blk_cell HPh.out 0
  refine hK.out _ _ (hrb) (fun hHeld => ?_)
  clear hK K
  refine done_ (by kernel_rfl) ?_
  go_wp2_with fail
  refine (mr_schema w.heap.size g wh HRh.out).mono ?_
  rintro e wi ⟨sb, cs, rfl, hcs, hC, hs1, hs2, hR, hK⟩
  have HRi := Aside0.mk hR
  have HMi := Aside0.mk (keep_blk hK.1 HMh.out (Nat.ne_of_lt hR.lt.1))
  have HPi := Aside0.mk (keep_blk hK.1 HPh.out HRG.out)
  have HBi := Aside0.mk (hK.2 w HBh.out HGW.out)
  have hrb : wi.cell? ⟨W1.heap.size, 0, none⟩ = some (.pointer (some ⟨g, 0, none⟩)) := blk_cell HPi.out 0
  have HCS := Aside0.mk hcs
  have HSW := Aside0.mk (show w.heap.size ≤ sb from Nat.le_trans HBh.out.size hs1)
  have HSG := Aside0.mk (show sb ≠ g by have := HRh.out.lt.2; omega)
  have HSM := Aside0.mk (show sb ≠ w.heap.size by have := blk_lt HMh.out; omega)
  have HCi := Aside0.mk hC
  have HSi := Aside0.mk hs2
  clear hcs hC hs1 hs2 hR hK
  have qm : wi.cell? ⟨w.heap.size, 2, none⟩ = some (.slice none 0 0) := blk_cell HMi.out 2
  have qf := blk_frozen HMi.out 2
  have hst : KeepBut wi (wi.setCell ⟨w.heap.size, 2, none⟩ (.slice (some ⟨sb, 0, none⟩) 1 cs)) w.heap.size none := (KeepBut.refl _ _ _).set_ 2 _
  have HRj := Aside0.mk (HRi.out.store (by decide) HMi.out (mc_no _ _ _ _ _ _ _ _ _) hst)
  have HMj := Aside0.mk (show (wi.setCell ⟨w.heap.size, 2, none⟩ (.slice (some ⟨sb, 0, none⟩) 1 cs)).heap[w.heap.size]? = some (.cells (MCells 0 0 (.slice (some ⟨sb, 0, none⟩) 1 cs) 1 (.slice none 0 0)) 27 (0, 0)) from by simpa [MCells] using blk_set HMi.out 2 (.slice (some ⟨sb, 0, none⟩) 1 cs))
  have HPj := Aside0.mk (keep_blk hst HPi.out HRM.out)
  have HBj := Aside0.mk (show Below w.heap.size w (wi.setCell ⟨w.heap.size, 2, none⟩ (.slice (some ⟨sb, 0, none⟩) 1 cs)) from HBi.out.setCell (Nat.le_refl _) _)
  have hrb : (wi.setCell ⟨w.heap.size, 2, none⟩ (.slice (some ⟨sb, 0, none⟩) 1 cs)).cell? ⟨W1.heap.size, 0, none⟩ = some (.pointer (some ⟨g, 0, none⟩)) := blk_cell HPj.out 0
  have HSj := Aside0.mk (Nat.lt_of_lt_of_le HSi.out hst.1)
  have HCj := Aside0.mk (C_move_col HCi.out ((hst.2 sb HSi.out HSM.out (by simp))))
  go_wp2_with fail
  generalize hws : wi.setCell ⟨w.heap.size, 2, none⟩ (.slice (some ⟨sb, 0, none⟩) 1 cs) = wj at *
  refine (mr_number w.heap.size g 7 0 1 8 wj rfl HRj.out (by decide) (by decide) (by decide +kernel) lz7 (by decide) (by decide)).mono ?_
  rintro e wk ⟨rfl, hR, hK⟩
  have HRk := Aside0.mk hR
  have HMk := Aside0.mk (keep_blk hK.1 HMj.out (Nat.ne_of_lt hR.lt.1))
  have HPk := Aside0.mk (keep_blk hK.1 HPj.out HRG.out)
  have HBk := Aside0.mk (hK.2 w HBj.out HGW.out)
  have hrb : wk.cell? ⟨W1.heap.size, 0, none⟩ = some (.pointer (some ⟨g, 0, none⟩)) := blk_cell HPk.out 0
  have HCk := Aside0.mk (C_move_col HCj.out (hK.1.2 sb HSj.out HSG.out (by simp)))
  have HSk := Aside0.mk (Nat.lt_of_lt_of_le HSj.out hK.1.1)
  clear hR hK
  have q2 : wk.cell? ⟨w.heap.size, 2, none⟩ = some (.slice (some ⟨sb, 0, none⟩) 1 cs) := blk_cell HMk.out 2
  go_wp2_with fail
  refine wp_loop_rounds 1 ?_
  rw [rounds_succ]
  go_wp2_with fail
  refine (mr_rows w.heap.size sb cs g wk HRk.out).mono ?_
  rintro e wl ⟨rfl, hR, hK⟩
  have HRl := Aside0.mk hR
  have HMl := Aside0.mk (keep_blk hK.1 HMk.out (Nat.ne_of_lt hR.lt.1))
  have HPl := Aside0.mk (keep_blk hK.1 HPk.out HRG.out)
  have HBl := Aside0.mk (hK.2 w HBk.out HGW.out)
  have hrb : wl.cell? ⟨W1.heap.size, 0, none⟩ = some (.pointer (some ⟨g, 0, none⟩)) := blk_cell HPl.out 0
  have HCl := Aside0.mk (C_move_col HCk.out (hK.1.2 sb HSk.out HSG.out (by simp)))
  have HSl := Aside0.mk (Nat.lt_of_lt_of_le HSk.out hK.1.1)
  clear hR hK
  have q5 : wl.cell? ⟨w.heap.size, 5, none⟩ = some (.slice none 0 0) := blk_cell HMl.out 5
  have qm : wl.cell? ⟨w.heap.size, 5, none⟩ = some (.slice none 0 0) := blk_cell HMl.out 5
  have qf := blk_frozen HMl.out 5
  have hst : KeepBut wl (wl.setCell ⟨w.heap.size, 5, none⟩ (.slice none 0 0)) w.heap.size none := (KeepBut.refl _ _ _).set_ 5 _
  have HRm := Aside0.mk (HRl.out.store (by decide) HMl.out (mc_no _ _ _ _ _ _ _ _ _) hst)
  have HMm := Aside0.mk (show (wl.setCell ⟨w.heap.size, 5, none⟩ (.slice none 0 0)).heap[w.heap.size]? = some (.cells (MCells 0 0 (.slice (some ⟨sb, 0, none⟩) 1 cs) 1 (.slice none 0 0)) 27 (0, 0)) from by simpa [MCells] using blk_set HMl.out 5 (.slice none 0 0))
  have HPm := Aside0.mk (keep_blk hst HPl.out HRM.out)
  have HBm := Aside0.mk (show Below w.heap.size w (wl.setCell ⟨w.heap.size, 5, none⟩ (.slice none 0 0)) from HBl.out.setCell (Nat.le_refl _) _)
  have hrb : (wl.setCell ⟨w.heap.size, 5, none⟩ (.slice none 0 0)).cell? ⟨W1.heap.size, 0, none⟩ = some (.pointer (some ⟨g, 0, none⟩)) := blk_cell HPm.out 0
  have HSm := Aside0.mk (Nat.lt_of_lt_of_le HSl.out hst.1)
  have HCm := Aside0.mk (C_move_col HCl.out ((hst.2 sb HSl.out HSM.out (by simp))))
  go_wp2_with fail
  generalize hws : wl.setCell ⟨w.heap.size, 5, none⟩ (.slice none 0 0) = wm at *
  refine (mr_number w.heap.size g 9 1 1 10 wm rfl HRm.out (by decide) (by decide) (by decide +kernel) lz9 (by decide) (by decide)).mono ?_
  rintro e wn ⟨rfl, hR, hK⟩
  have HRn := Aside0.mk hR
  have HMn := Aside0.mk (keep_blk hK.1 HMm.out (Nat.ne_of_lt hR.lt.1))
  have HPn := Aside0.mk (keep_blk hK.1 HPm.out HRG.out)
  have HBn := Aside0.mk (hK.2 w HBm.out HGW.out)
  have hrb : wn.cell? ⟨W1.heap.size, 0, none⟩ = some (.pointer (some ⟨g, 0, none⟩)) := blk_cell HPn.out 0
  have HCn := Aside0.mk (C_move_col HCm.out (hK.1.2 sb HSm.out HSG.out (by simp)))
  have HSn := Aside0.mk (Nat.lt_of_lt_of_le HSm.out hK.1.1)
  clear hR hK
  go_wp2_with fail
  refine wp_loop_rounds 2 ?_
  rw [rounds_succ]
  go_wp2_with fail
  refine (m_goodf w.heap.size W1.heap.size g 10 wn HRn.out HPn.out).mono ?_
  rintro e wo ⟨rfl, hb⟩
  have hR := HRn.out.below hb
  have hK : RCall wn wo g := RCall.of_below hb
  have HRo := Aside0.mk hR
  have HMo := Aside0.mk (keep_blk hK.1 HMn.out (Nat.ne_of_lt hR.lt.1))
  have HPo := Aside0.mk (keep_blk hK.1 HPn.out HRG.out)
  have HBo := Aside0.mk (hK.2 w HBn.out HGW.out)
  have hrb : wo.cell? ⟨W1.heap.size, 0, none⟩ = some (.pointer (some ⟨g, 0, none⟩)) := blk_cell HPo.out 0
  have HCo := Aside0.mk (C_move_col HCn.out (hb.block sb HSn.out))
  have HSo := Aside0.mk (Nat.lt_of_lt_of_le HSn.out hb.size)
  clear hR hK hb
  go_wp2_with fail
  have hrb : wo.drew.cell? ⟨W1.heap.size, 0, none⟩ = some (.pointer (some ⟨g, 0, none⟩)) := blk_cell (show wo.drew.heap[W1.heap.size]? = _ from HPo.out) 0
  have hq6 : wo.drew.cell? ⟨w.heap.size, 6, none⟩ = some (.slice none 0 0) := blk_cell (show wo.drew.heap[w.heap.size]? = _ from HMo.out) 6
  have HRp := Aside0.mk (HRo.out.below (below_drew (Below.refl _ wo)))
  have HMp := Aside0.mk (show wo.drew.heap[w.heap.size]? = some (.cells (MCells 0 0 (.slice (some ⟨sb, 0, none⟩) 1 cs) 1 (.slice none 0 0)) 27 (0, 0)) from HMo.out)
  have HPp := Aside0.mk (show wo.drew.heap[W1.heap.size]? = some (.cells #[.pointer (some ⟨g, 0, none⟩)] 146 (0, 0)) from HPo.out)
  have HBp := Aside0.mk (below_drew HBo.out)
  have HCp := Aside0.mk (show Kd.C k123 wo.drew (some ⟨sb, 0, none⟩) 1 [⟨1, false, -1⟩] from HCo.out)
  have HSp := Aside0.mk (show sb < wo.drew.heap.size from HSo.out)
  refine start_ (n := 8) (S := fun w' => w'.cell? ⟨W1.heap.size, 0, none⟩ = some (.pointer (some ⟨g, 0, none⟩)) ∧ w'.cell? ⟨w.heap.size, 6, none⟩ = some (.slice none 0 0)) (ds := [7]) #[false, false, false, false, false, false, false, false] (by kernel_rfl) rfl rfl ⟨hrb, hq6⟩ (fun hHeld => ?_)
  generalize wo.drew = wp at *
  refine pure_ (i := 0) (N := some 68) (v := ?_) (a' := ?_) #[true, false, false, false, false, false, false, false] rfl rfl (by kernel_rfl) (fun _ _ _ h => h) (Or.inl ⟨by rfl, ?_⟩) ?_ ?_
  rotate_left
  · intro w'
    go_simp
    with_reducible rfl
  rotate_left
  · simp only [Act.put, List.setIfInBounds_toArray, List.set_cons_zero, List.set_cons_succ, i64_w, i32_w]
    rfl
  refine take_ (i := 1) (N := some 69) (v := ?_) (a' := ?_) #[true, true, false, false, false, false, false, false] rfl rfl (by kernel_rfl) (fun _ _ _ h => h) (Or.inl ⟨by rfl, ?_⟩) hHeld ?_ ?_
  rotate_left
  · rintro w' ⟨s0, s1⟩
    go_simp
    with_reducible rfl
  rotate_left
  · simp only [Act.put, List.setIfInBounds_toArray, List.set_cons_zero, List.set_cons_succ, i64_w, i32_w]
    rfl
  refine take_ (i := 2) (N := some 70) (v := ?_) (a' := ?_) #[true, true, true, false, false, false, false, false] rfl rfl (by kernel_rfl) (fun _ _ _ h => h) (Or.inl ⟨by rfl, ?_⟩) hHeld ?_ ?_
  rotate_left
  · rintro w' ⟨s0, s1⟩
    go_simp
    with_reducible rfl
  rotate_left
  · simp only [Act.put, List.setIfInBounds_toArray, List.set_cons_zero, List.set_cons_succ, i64_w, i32_w]
    rfl
  refine one_ (i := 3) (N := some 71) #[true, true, true, true, false, false, false, false] rfl rfl (by kernel_rfl) (by decide) (fun K hK => ?_)
  refine goes_ Tryz.func95 (by kernel_rfl) rfl #[.pointer (some ⟨g, 0, none⟩)] (by rfl) rfl rfl (by simp only [List.map_toArray, List.map_cons, List.map_nil]; rfl) ?_
  with_reducible refine (mr_entry w.heap.size g wp HRp.out).mono ?_
  rintro e wq ⟨rfl, hR, hK⟩
  refine ⟨_, rfl, ?_⟩
  have HRq := Aside0.mk hR
  have HMq := Aside0.mk (keep_blk hK.1 HMp.out (Nat.ne_of_lt hR.lt.1))
  have HPq := Aside0.mk (keep_blk hK.1 HPp.out HRG.out)
  have HBq := Aside0.mk (hK.2 w HBp.out HGW.out)
  have hrb : wq.cell? ⟨W1.heap.size, 0, none⟩ = some (.pointer (some ⟨g, 0, none⟩)) := blk_cell HPq.out 0
  have HCq := Aside0.mk (C_move_col HCp.out (hK.1.2 sb HSp.out HSG.out (by simp)))
  have HSq := Aside0.mk (Nat.lt_of_lt_of_le HSp.out hK.1.1)
  have hq6 : wq.cell? ⟨w.heap.size, 6, none⟩ = some (.slice none 0 0) := blk_cell HMq.out 6
  clear hR hK
  refine hK.out _ _ ⟨hrb, hq6⟩ (fun hHeld => ?_)
  clear hK K
  refine norm_ (a' := ?_) ?_ ?_
  rotate_left
  · show Act.put _ (some 71) _ = _
    simp only [Act.put, List.setIfInBounds_toArray, List.set_cons_zero, List.set_cons_succ, i64_w, i32_w]
    rfl
  refine one_ (i := 4) (N := some 72) #[true, true, true, true, true, false, false, false] rfl rfl (by kernel_rfl) (by decide) (fun K hK => ?_)
  refine value_ (w1 := ?_) (v := ?_) (by rfl) rfl ?_ ?_
  rotate_left 2
  · show _ = Result.ok (Next.value (Value.slice (some ⟨wq.heap.size, 0, none⟩) 1 1)) (wq.alloc (.cells Tryz.zeroCells81 81))
    kernel_rfl
  have hba : Below wq.heap.size wq (wq.alloc (.cells Tryz.zeroCells81 81)) := below_alloc (Below.refl _ _) _
  have hrb := pw_cell_below hba hrb
  have hq6 := pw_cell_below hba hq6
  have hone : ∀ u ∈ Tryz.zeroCells81.toList, u.oneCell' = true := fun u hu => List.all_eq_true.1 (show Tryz.zeroCells81.toList.all (·.oneCell') = true from by kernel_rfl) u hu
  refine hK.out _ _ ⟨hrb, hq6⟩ (fun hHeld => ?_)
  clear hK K
  refine norm_ (a' := ?_) ?_ ?_
  rotate_left
  · show Act.put _ (some 72) _ = _
    simp only [Act.put, List.setIfInBounds_toArray, List.set_cons_zero, List.set_cons_succ, i64_w, i32_w]
    rfl
  refine one_ (i := 5) (N := some 73) #[true, true, true, true, true, true, false, false] rfl rfl (by kernel_rfl) (by decide) (fun K hK => ?_)
  refine Kd.R_append_step (Kd.raw 65) (w0 := wq) wq.heap.size (by rfl) (.tmp 69) (.tmp 72) 25 81 (.agg Tryz.zeroCells81) 72 rfl Tryz.underlying25 (by kernel_rfl) (by kernel_rfl) (by decide) (by decide) (.slice none 0 0) [] Tryz.zeroCells81.toList Tryz.zeroCells81.toList (fun _ => True) (fun _ => False) rfl rfl ⟨rfl, by kernel_rfl, hone⟩ (fun _ h => h.elim) (fun _ _ => trivial) (Kd.R_nil _ _ _ _ _) (Below.refl _ _) (Nat.le_refl _) (by decide) ?_
  intro v5 wr ho hbr _ _
  obtain ⟨eb, ce, rfl, _⟩ := Kd.R_form ho (by simp)
  have hrd := Kd.R_reads' ho
  have HCE := Aside0.mk hrd.2.1
  have HEr := Aside0.mk (EntC.of_raw hrd.2.2)
  have HEL := Aside0.mk (Kd.R_lt ho eb rfl)
  have heb := Kd.R_base ho eb rfl
  have HEW := Aside0.mk (show w.heap.size ≤ eb from Nat.le_trans HBq.out.size heb)
  have HRr := Aside0.mk (HRq.out.below hbr)
  have HMr := Aside0.mk ((hbr.block _ (blk_lt HMq.out)).trans HMq.out)
  have HPr := Aside0.mk ((hbr.block _ (blk_lt HPq.out)).trans HPq.out)
  have HBr := Aside0.mk (below_then HBq.out HBq.out.size hbr)
  have HCr := Aside0.mk (C_move_col HCq.out (hbr.block sb HSq.out))
  have HSr := Aside0.mk (Nat.lt_of_lt_of_le HSq.out hbr.size)
  have HEG := Aside0.mk (show eb ≠ g by have := HRq.out.lt.2; omega)
  have HEM := Aside0.mk (show eb ≠ w.heap.size by have := blk_lt HMq.out; omega)
  have hrb : wr.cell? ⟨W1.heap.size, 0, none⟩ = some (.pointer (some ⟨g, 0, none⟩)) := blk_cell HPr.out 0
  have hq6 : wr.cell? ⟨w.heap.size, 6, none⟩ = some (.slice none 0 0) := blk_cell HMr.out 6
  have qf := blk_frozen HMr.out 6
  clear ho hbr hrd heb
  refine hK.out _ _ ⟨hrb, hq6⟩ (fun hHeld => ?_)
  clear hK K
  refine norm_ (a' := ?_) ?_ ?_
  rotate_left
  · show Act.put _ (some 73) _ = _
    simp only [Act.put, List.setIfInBounds_toArray, List.set_cons_zero, List.set_cons_succ, i64_w, i32_w]
    rfl
  refine pure_ (i := 6) (N := some 74) (v := ?_) (a' := ?_) #[true, true, true, true, true, true, true, false] rfl rfl (by kernel_rfl) (fun _ _ _ h => h) (Or.inl ⟨by rfl, ?_⟩) ?_ ?_
  rotate_left
  · intro w'
    go_simp
    with_reducible rfl
  rotate_left
  · simp only [Act.put, List.setIfInBounds_toArray, List.set_cons_zero, List.set_cons_succ, i64_w, i32_w]
    rfl
  refine last_ (i := 7) (N := none) #[true, true, true, true, true, true, true, true] rfl rfl (by kernel_rfl) (by decide) (fun K hK => ?_)
  refine skip_ (w1 := ?_) (by rfl) rfl ?_ ?_
  rotate_left
  · go_simp
    rfl
  have hst : KeepBut wr (wr.setCell ⟨w.heap.size, 6, none⟩ (.slice (some ⟨eb, 0, none⟩) 1 ce)) w.heap.size none := (KeepBut.refl _ _ _).set_ 6 _
  have HRs := Aside0.mk (HRr.out.store (by decide) HMr.out (mc_no _ _ _ _ _ _ _ _ _) hst)
  have HMs := Aside0.mk (show (wr.setCell ⟨w.heap.size, 6, none⟩ (.slice (some ⟨eb, 0, none⟩) 1 ce)).heap[w.heap.size]? = some (.cells (MCells 0 0 (.slice (some ⟨sb, 0, none⟩) 1 cs) 1 (.slice (some ⟨eb, 0, none⟩) 1 ce)) 27 (0, 0)) from by simpa [MCells] using blk_set HMr.out 6 (.slice (some ⟨eb, 0, none⟩) 1 ce))
  have HPs := Aside0.mk (keep_blk hst HPr.out HRM.out)
  have HBs := Aside0.mk (show Below w.heap.size w (wr.setCell ⟨w.heap.size, 6, none⟩ (.slice (some ⟨eb, 0, none⟩) 1 ce)) from HBr.out.setCell (Nat.le_refl _) _)
  have HCs := Aside0.mk (C_move_col HCr.out (hst.2 sb HSr.out HSM.out (by simp)))
  have HSs := Aside0.mk (Nat.lt_of_lt_of_le HSr.out hst.1)
  have HEs := Aside0.mk (HEr.out.move (hst.2 eb HEL.out HEM.out (by simp)))
  have HELs := Aside0.mk (Nat.lt_of_lt_of_le HEL.out hst.1)
  generalize hws : wr.setCell ⟨w.heap.size, 6, none⟩ (.slice (some ⟨eb, 0, none⟩) 1 ce) = ws at *
  have hrb : ws.cell? ⟨W1.heap.size, 0, none⟩ = some (.pointer (some ⟨g, 0, none⟩)) := blk_cell HPs.out 0
  refine hK.out _ _ ?_
  clear hK K
  refine done_ (by kernel_rfl) ?_
  go_wp2_with fail
  rw [rounds_succ]
  go_wp2_with fail
  refine (mr_end w.heap.size g ws HRs.out).mono ?_
  rintro e wt ⟨rfl, hb⟩
  have HRt := Aside0.mk (HRs.out.below hb)
  have HMt := Aside0.mk ((hb.block _ (blk_lt HMs.out)).trans HMs.out)
  have HPt := Aside0.mk ((hb.block _ (blk_lt HPs.out)).trans HPs.out)
  have HBt := Aside0.mk (below_then HBs.out HBs.out.size hb)
  have HCt := Aside0.mk (C_move_col HCs.out (hb.block sb HSs.out))
  have HSt := Aside0.mk (Nat.lt_of_lt_of_le HSs.out hb.size)
  have HEt := Aside0.mk (HEs.out.move (hb.block eb HELs.out))
  have HELt := Aside0.mk (Nat.lt_of_lt_of_le HELs.out hb.size)
  clear hb
  go_wp2_with (refine wpList_load_row rfl 27 (.tmp 2) rfl w.heap.size rfl 27 (MCells 0 0 (.slice (some ⟨sb, 0, none⟩) 1 cs) 1 (.slice (some ⟨eb, 0, none⟩) 1 ce)) (0, 0) _ HMt.out Tryz.underlying27 rfl (by kernel_rfl) ?_)
  refine (m_check sb cs eb ce wt ⟨HCS.out, HCE.out, HCt.out, HEt.out⟩).mono ?_
  rintro e wu ⟨rfl, hb⟩
  have HRu := Aside0.mk (HRt.out.below hb)
  have HMu := Aside0.mk ((hb.block _ (blk_lt HMt.out)).trans HMt.out)
  have HPu := Aside0.mk ((hb.block _ (blk_lt HPt.out)).trans HPt.out)
  have HBu := Aside0.mk (below_then HBt.out HBt.out.size hb)
  have HCu := Aside0.mk (C_move_col HCt.out (hb.block sb HSt.out))
  have HSu := Aside0.mk (Nat.lt_of_lt_of_le HSt.out hb.size)
  have HEu := Aside0.mk (HEt.out.move (hb.block eb HELt.out))
  clear hb
  go_wp2_with (first | (refine wpList_load_row rfl 27 (.tmp 2) rfl w.heap.size rfl 27 (MCells 0 0 (.slice (some ⟨sb, 0, none⟩) 1 cs) 1 (.slice (some ⟨eb, 0, none⟩) 1 ce)) (0, 0) _ HMu.out Tryz.underlying27 rfl (by kernel_rfl) ?_) | (refine wpList_store_row rfl 27 (.tmp 2) (.tmp 94) rfl w.heap.size (MCells 0 0 (.slice (some ⟨sb, 0, none⟩) 1 cs) 1 (.slice (some ⟨eb, 0, none⟩) 1 ce)) rfl rfl 27 (MCells 0 0 (.slice (some ⟨sb, 0, none⟩) 1 cs) 1 (.slice (some ⟨eb, 0, none⟩) 1 ce)) HMu.out (by kernel_rfl) rfl (by kernel_rfl) ?_))
  rw [setRow_self wu w.heap.size _ _ _ HMu.out]
  refine bodyPost_ret (v := .tuple #[ManV sb cs eb ce, .nilIface]) (results_cr_tmp (p := 2) (u := 3) rfl _ _ w.heap.size 27 (MCells 0 0 (.slice (some ⟨sb, 0, none⟩) 1 cs) 1 (.slice (some ⟨eb, 0, none⟩) 1 ce)) (0, 0) _ rfl HMu.out Tryz.underlying27 rfl (by kernel_rfl)) rfl ?_
  exact ⟨sb, cs, eb, ce, rfl, ⟨HCS.out, HCE.out, HCu.out, HEu.out⟩, HSW.out, HEW.out, HBu.out⟩
end Go.Proofs.YtjmhiklmlgbifaaGreatDoor.PMan
end

/- Texts, put into one. -/
import Derived.Test.YtjmhiklmlgbifaaGreatDoorPT32
import Derived.Test.YtjmhiklmlgbifaaGreatDoorPT34
import Derived.Test.YtjmhiklmlgbifaaGreatDoorPTW
set_option linter.unusedVariables false
set_option linter.unusedSimpArgs false
open Go Go.RowKit Go.Proofs.YtjmhiklmlgbifaaGreatDoorW.PrintWords Go.Proofs.YtjmhiklmlgbifaaGreatDoorW.PrintLast Go.Proofs.YtjmhiklmlgbifaaGreatDoorW.PrintMore
namespace Go.Proofs.YtjmhiklmlgbifaaGreatDoor.PMan
section
attribute [local go_sem] max2_int min2_int max_two min_two
def cCells (c : S123) : Array Value := #[.int .i64 c.f0, .bool c.f1, .int .i64 c.f2]
theorem cCells_all (c : S123) : (cCells c).all (·.oneCell') = true := by simp [cCells, Value.oneCell']
set_option maxHeartbeats 16000000 in
set_option maxRecDepth 100000 in
theorem rSchema (w0 w : World) (g : Nat) (s0 : List Int) (q : St) (h : Rr w0 w g s0 q) :
  Calls Tryz.prog 58 #[.pointer (some ⟨g, 0, none⟩)] w fun e w' => ∃ vv, e = .returned vv ∧ Kd.R k123 123 w' w.heap.size (fun _ => True) vv (schQ s0 q).1 ∧ Rr w0 w' g s0 (schQ s0 q).2 ∧ KeepBut w w' g none := by
 have HR := am h
 have hlt := h.lt
 have hfr := fixQ_range h.inn
 have hfw := fix_wrap h.inn
 obtain ⟨r, hr⟩ : ∃ r, r = schQ s0 q := ⟨_, rfl⟩
 rw [← hr]
 unfold schQ at hr
 have hF := rFix w0 w g s0 q h
 clear h
 obtain ⟨n, q1, hkq⟩ : ∃ k q1, fixQ s0 q = (k, q1) := ⟨_, _, rfl⟩
 rw [hkq] at hr hfr hfw hF
 dsimp only at hr hfr hfw hF
 clear hkq
 obtain ⟨n0, n1⟩ := hfr
 have HRES := am hr
 have HFX := am hF
 clear hr hF
 go_enter Tryz.func58, Tryz.ntmps58
 go_wp2_with fail
 refine HFX.out.mono ?_
 rintro e w1 ⟨rfl, hr1, hk1⟩
 have HR1 := am hr1
 have HK1 := am hk1
 clear hr1 hk1 HFX HR
 obtain ⟨m, rfl⟩ := Int.eq_ofNat_of_zero_le n0
 rw [Int.toNat_natCast] at HRES
 go_wp2_with fail
 clear hfw n0
 have hm : m < 256 := by omega
 clear n1
 go_loopw [4, 5] (fun vb v5 w' => ∃ (i : Nat) (l : List S123) (q' : St), i ≤ m ∧ v5 = .int .i64 i ∧ Aside0 (Rr w0 w' g s0 q') ∧ Aside0 (KeepBut w w' g none) ∧ Aside0 (Kd.R k123 123 w' w.heap.size (fun _ => True) vb l) ∧ Aside0 (l.length ≤ i) ∧ Aside0 (colsQ s0 (m - i) l q' = colsQ s0 m [] q1)) (fun _ i _ => m - (intOf i).toNat)
 case atStart => exact ⟨0, [], q1, Nat.zero_le _, rfl, HR1, HK1, ⟨Kd.R_nil _ _ _ _ _⟩, ⟨Nat.le_refl _⟩, ⟨rfl⟩⟩
 case round =>
  obtain ⟨i, l, q', hi, rfl, HRr, HKr, HV, HLN, HQ⟩ := hrel
  have c2 := HRr.out.err
  by_cases hz : ¬ q'.2.1 = 0
  ·have hb1 : (q'.2.1 == 0) = false := beq_eq_false_iff_ne.2 hz
   have hb2 : (q'.2.1 != 0) = true := by simpa using hz
   have e := HQ.out
   rw [colsQ_err hz] at e
   rw [← e] at HRES
   unfold okL at HRES
   dsimp only at HRES
   rw [failQ_err hz, if_neg hz] at HRES
   clear e hz
   by_cases hlt2 : i < m
   ·go_wp2
    go_ret
    rw [HRES.out]
    exact ⟨_, rfl, Kd.R_nil _ _ _ _ _, HRr.out, HKr.out⟩
   ·go_wp2
    go_ret
    rw [HRES.out]
    exact ⟨_, rfl, Kd.R_nil _ _ _ _ _, HRr.out, HKr.out⟩
  have hq0 := Classical.not_not.1 hz
  clear hz
  by_cases hlt2 : i < m
  ·have hi1 := HRr.out.inn
   obtain ⟨k, qa, ha⟩ : ∃ k qa, fixQ s0 q' = (k, qa) := ⟨_, _, rfl⟩
   obtain ⟨u, qb, hb⟩ : ∃ k qb, fixQ s0 qa = (k, qb) := ⟨_, _, rfl⟩
   obtain ⟨y, qc, hc⟩ : ∃ k qc, fixQ s0 qb = (k, qc) := ⟨_, _, rfl⟩
   have ka := fixQ_range hi1
   have ia := fixQ_in hi1
   rw [ha] at ka ia
   have kb := fixQ_range ia
   have ib := fixQ_in ia
   rw [hb] at kb ib
   have kc := fixQ_range ib
   rw [hc] at kc
   have hcq := colQ_of ha hb hc
   have hst : colsQ s0 (m - i) l q' = colsQ s0 (m - (i + 1)) (l ++ [⟨k, u == 1, y - 1⟩]) (if u > 1 then failQ 4 qc else qc) := by
    rw [show m - i = (m - (i + 1)) + 1 by omega, colsQ, if_pos hq0, hcq]
   have HST := am (hst.symm.trans HQ.out)
   have hFa := fun W (H : Rr w0 W g s0 q') => rFix w0 W g s0 q' H
   have hFb := fun W (H : Rr w0 W g s0 qa) => rFix w0 W g s0 qa H
   have hFc := fun W (H : Rr w0 W g s0 qb) => rFix w0 W g s0 qb H
   simp only [ha] at hFa
   simp only [hb] at hFb
   simp only [hc] at hFc
   dsimp only at ka kb kc
   have HFA := am hFa
   have HFB := am hFb
   have HFC := am hFc
   have hwk : wrap64 k = k := by unfold wrap64; omega
   have hwy : wrap64 y = y := by unfold wrap64; omega
   have hwy1 : wrap64 (y - 1) = y - 1 := by unfold wrap64; omega
   rw [hq0] at c2
   clear ha hb hc hcq hst hFa hFb hFc ia ib hi1 hq0 HQ ka kb kc
   go_wp2_with fail
   refine (HFA.out wr HRr.out).mono ?_
   rintro e wa ⟨rfl, hr, hk⟩
   have HRa := am hr
   have HKa := am (keep_then HKr.out hk)
   have HVa := am (R_past HV.out hlt hk)
   clear hr hk c2
   have hbl : Below wa.heap.size wa (wa.alloc (.cells (cCells ⟨k, false, 0⟩) 123)) := below_alloc (Below.refl _ _) _
   have HRb := am (HRa.out.below hbl)
   have HKb := am (KeepBut.below_ HKa.out hbl)
   have HVb := am (Kd.R_below (Kd.R_mono (ok' := fun k => k < wa.heap.size) (Kd.R_bound HVa.out) (fun k hk => hk.2.2.1)) hbl)
   have HCb := am (heap_alloc_new wa (.cells (cCells ⟨k, false, 0⟩) 123))
   have HCG := am (show g < wa.heap.size by have := HKa.out.1; omega)
   have HCW := am (show w.heap.size ≤ wa.heap.size from HKa.out.1)
   have HCB := am (show wa.heap.size ≤ wa.heap.size from Nat.le_refl _)
   clear hbl
   go_wp2_with (refine wpList_store_row rfl 123 (.tmp 6) (.tmp 26) rfl wa.heap.size (cCells ⟨k, false, 0⟩) rfl rfl 123 _ (heap_alloc_new wa _) (by kernel_rfl) rfl (cCells_all _) ?_; rw [World.setRow_alloc_new])
   generalize wa.alloc (.cells (cCells ⟨k, false, 0⟩) 123) = wb at *
   generalize wa.heap.size = cb at *
   refine (HFB.out wb HRb.out).mono ?_
   rintro e wc ⟨rfl, hr, hk⟩
   have HRc := am hr
   have HKc := am (keep_then HKb.out hk)
   have HVc := am (R_past HVb.out hlt hk)
   have HCc := am (KeepBut.at_ hk HCb.out (by have := HCG.out; omega))
   clear hr hk
   go_wp2_with fail
   refine (HFC.out wc HRc.out).mono ?_
   rintro e wd ⟨rfl, hr, hk⟩
   have HRd := am hr
   have HKd := am (keep_then HKc.out hk)
   have HVd := am (R_past HVc.out hlt hk)
   have HCd := am (KeepBut.at_ hk HCc.out (by have := HCG.out; omega))
   clear hr hk
   have d2 : wd.cell? ⟨cb, 2, none⟩ = some (.int .i64 0) := blk_cell HCd.out 2
   have d3 := blk_frozen HCd.out 2
   have HRe := am (HRd.out.setCell HCG.out 2 (.int .i64 (y - 1)))
   have HKe := am (KeepBut.cell HKd.out HCW.out 2 (.int .i64 (y - 1)))
   have HVe := am (Kd.R_far (p := ⟨cb, 2, none⟩) HVd.out (fun k hk => by show k ≠ cb; have := HCB.out; omega) (.int .i64 (y - 1)))
   have HCe : Aside0 ((wd.setCell ⟨cb, 2, none⟩ (.int .i64 (y - 1))).heap[cb]? = some (.cells (cCells ⟨k, false, y - 1⟩) 123 (0, 0))) := am (by rw [setCell_eq_setRow _ _ _ _ _ _ _ HCd.out]; exact setRow_heap _ _ _ _ _ _ HCd.out)
   by_cases hu : u > 1
   ·have e := HST.out
    rw [if_pos hu] at e
    have HE := am e
    have hF := fun W (H : Rr w0 W g s0 qc) => rFail 4 w0 W g s0 qc H
    generalize failQ 4 qc = qd at *
    have HFD := am hF
    clear e hF HST
    go_wp2_with fail
    generalize wd.setCell ⟨cb, 2, none⟩ (.int .i64 (y - 1)) = we at *
    refine (HFD.out we HRe.out).mono ?_
    rintro e wf ⟨rfl, hr, hk⟩
    have HRf := am hr
    have HKf := am (keep_then HKe.out hk)
    have HVf := am (R_past HVe.out hlt hk)
    have HCf := am (KeepBut.at_ hk HCe.out (by have := HCG.out; omega))
    clear hr hk d2 d3
    have g1 : wf.cell? ⟨cb, 1, none⟩ = some (.bool false) := blk_cell HCf.out 1
    have g2 := blk_frozen HCf.out 1
    have HRh := am (HRf.out.setCell HCG.out 1 (.bool (u == 1)))
    have HKh := am (KeepBut.cell HKf.out HCW.out 1 (.bool (u == 1)))
    have HVq := am (Kd.R_far (p := ⟨cb, 1, none⟩) HVf.out (fun k hk => by show k ≠ cb; have := HCB.out; omega) (.bool (u == 1)))
    have hc : (wf.setCell ⟨cb, 1, none⟩ (.bool (u == 1))).heap[cb]? = some (.cells (cCells ⟨k, u == 1, y - 1⟩) 123 (0, 0)) := by rw [setCell_eq_setRow _ _ _ _ _ _ _ HCf.out]; exact setRow_heap _ _ _ _ _ _ HCf.out
    have p0 : (wf.setCell ⟨cb, 1, none⟩ (.bool (u == 1))).cell? ⟨cb, 0, none⟩ = some (.int .i64 k) := blk_cell hc 0
    have p1 : (wf.setCell ⟨cb, 1, none⟩ (.bool (u == 1))).cell? ⟨cb, 1, none⟩ = some (.bool (u == 1)) := blk_cell hc 1
    have p2 : (wf.setCell ⟨cb, 1, none⟩ (.bool (u == 1))).cell? ⟨cb, 2, none⟩ = some (.int .i64 (y - 1)) := blk_cell hc 2
    clear hc
    have HGT := am (Kd.R_mono (ok' := fun _ => True) HVq.out (fun _ _ => trivial))
    go_wp2_with ((with_reducible refine gate_builtin (b := .append) (xs := #[.tmp 41, .tmp 43]) rfl ?_); at_builtin; have hsz : (wf.setCell ⟨cb, 1, none⟩ (.bool (u == 1))).heap.size = wf.heap.size := (by simp [World.setCell]); generalize wf.setCell ⟨cb, 1, none⟩ (.bool (u == 1)) = wh at *; refine Kd.R_append k123 (w0 := wh) w.heap.size rfl (.tmp 41) (.tmp 43) 22 123 (.agg #[.int .i64 0, .bool false, .int .i64 0]) 24 rfl Tryz.underlying22 (by kernel_rfl) rfl (by decide) (by decide) u4 l (⟨k, u == 1, y - 1⟩ : S123) [.int .i64 k, .bool (u == 1), .int .i64 (y - 1)] (fun _ => True) (fun _ => False) rfl (by rw [hsz]; rfl) (k123_mkM _ _ _ _) (fun _ h => h.elim) (fun _ _ => trivial) HGT.out (Below.refl _ _) HKh.out.1 (by have := HLN.out; omega) ?_; intro vi wi ho hb hg2 _; have HVi := am ho; have HRi := am (HRh.out.grown HGT.out hlt hg2); have HKi := am (KeepBut.grown HKh.out HGT.out (Nat.le_refl _) hg2); clear ho hb hg2)
    go_roundw
    case rel => exact ⟨i + 1, _, qd, by omega, by go_num, HRi, HKi, HVi, ⟨by have := HLN.out; rw [List.length_append, List.length_singleton]; omega⟩, HE⟩
    case measure => simp [intOf]; omega
   ·have e := HST.out
    rw [if_neg hu] at e
    have HE := am e
    clear e HST
    have g1 : (wd.setCell ⟨cb, 2, none⟩ (.int .i64 (y - 1))).cell? ⟨cb, 1, none⟩ = some (.bool false) := blk_cell HCe.out 1
    have g2 := blk_frozen HCe.out 1
    have HRh := am (HRe.out.setCell HCG.out 1 (.bool (u == 1)))
    have HKh := am (KeepBut.cell HKe.out HCW.out 1 (.bool (u == 1)))
    have HVq := am (Kd.R_far (p := ⟨cb, 1, none⟩) HVe.out (fun k hk => by show k ≠ cb; have := HCB.out; omega) (.bool (u == 1)))
    have hc : ((wd.setCell ⟨cb, 2, none⟩ (.int .i64 (y - 1))).setCell ⟨cb, 1, none⟩ (.bool (u == 1))).heap[cb]? = some (.cells (cCells ⟨k, u == 1, y - 1⟩) 123 (0, 0)) := by rw [setCell_eq_setRow _ _ _ _ _ _ _ HCe.out]; exact setRow_heap _ _ _ _ _ _ HCe.out
    have p0 : ((wd.setCell ⟨cb, 2, none⟩ (.int .i64 (y - 1))).setCell ⟨cb, 1, none⟩ (.bool (u == 1))).cell? ⟨cb, 0, none⟩ = some (.int .i64 k) := blk_cell hc 0
    have p1 : ((wd.setCell ⟨cb, 2, none⟩ (.int .i64 (y - 1))).setCell ⟨cb, 1, none⟩ (.bool (u == 1))).cell? ⟨cb, 1, none⟩ = some (.bool (u == 1)) := blk_cell hc 1
    have p2 : ((wd.setCell ⟨cb, 2, none⟩ (.int .i64 (y - 1))).setCell ⟨cb, 1, none⟩ (.bool (u == 1))).cell? ⟨cb, 2, none⟩ = some (.int .i64 (y - 1)) := blk_cell hc 2
    clear hc
    have HGT := am (Kd.R_mono (ok' := fun _ => True) HVq.out (fun _ _ => trivial))
    go_wp2_with ((with_reducible refine gate_builtin (b := .append) (xs := #[.tmp 41, .tmp 43]) rfl ?_); at_builtin; have hsz : ((wd.setCell ⟨cb, 2, none⟩ (.int .i64 (y - 1))).setCell ⟨cb, 1, none⟩ (.bool (u == 1))).heap.size = wd.heap.size := (by simp [World.setCell]); generalize (wd.setCell ⟨cb, 2, none⟩ (.int .i64 (y - 1))).setCell ⟨cb, 1, none⟩ (.bool (u == 1)) = wh at *; refine Kd.R_append k123 (w0 := wh) w.heap.size rfl (.tmp 41) (.tmp 43) 22 123 (.agg #[.int .i64 0, .bool false, .int .i64 0]) 24 rfl Tryz.underlying22 (by kernel_rfl) rfl (by decide) (by decide) u4 l (⟨k, u == 1, y - 1⟩ : S123) [.int .i64 k, .bool (u == 1), .int .i64 (y - 1)] (fun _ => True) (fun _ => False) rfl (by rw [hsz]; rfl) (k123_mkM _ _ _ _) (fun _ h => h.elim) (fun _ _ => trivial) HGT.out (Below.refl _ _) HKh.out.1 (by have := HLN.out; omega) ?_; intro vi wi ho hb hg2 _; have HVi := am ho; have HRi := am (HRh.out.grown HGT.out hlt hg2); have HKi := am (KeepBut.grown HKh.out HGT.out (Nat.le_refl _) hg2); clear ho hb hg2)
    go_roundw
    case rel => exact ⟨i + 1, _, qc, by omega, by go_num, HRi, HKi, HVi, ⟨by have := HLN.out; rw [List.length_append, List.length_singleton]; omega⟩, HE⟩
    case measure => simp [intOf]; omega
  ·obtain rfl : i = m := by omega
   have e := HQ.out
   rw [Nat.sub_self, colsQ] at e
   rw [← e] at HRES
   dsimp only at HRES
   rw [hq0] at c2
   clear e HQ
   obtain ⟨A, c, rfl⟩ := Kd.R_slice HV.out
   have HRD := am (Kd.R_reads' HV.out)
   go_wp2_with fail
   refine (refSchema_calls A c l wr HRD.out.2.2 HRD.out.2.1 (by have := HLN.out; omega)).mono ?_
   rintro e wf ⟨rfl, hdr⟩
   have hbf : Below wr.heap.size wr wf := by obtain ⟨nd, rfl⟩ := hdr; exact pw_below_drewN (Below.refl _ _) nd
   clear hdr
   have HRf := am (HRr.out.below hbf)
   have HKf := am (KeepBut.below_ HKr.out hbf)
   have HVf := am (Kd.R_below HV.out hbf)
   clear hbf c2
   have hF := rFail (schemaP l) w0 wf g s0 q' HRf.out
   unfold okL at HRES
   dsimp only at HRES
   generalize schemaP l = sc at *
   generalize failQ sc q' = qf at *
   have HF := am hF
   clear hF
   go_wp2_with fail
   refine HF.out.mono ?_
   rintro e wg ⟨rfl, hrg, hkg⟩
   have HRg := am hrg
   have HKg := am (keep_then HKf.out hkg)
   have HVg := am (R_past HVf.out hlt hkg)
   have c3 := hrg.err
   clear hrg hkg
   by_cases hz2 : qf.2.1 = 0
   ·have HZ := am hz2
    rw [hz2] at c3
    clear hz2
    go_wp2
    go_ret
    rw [HRES.out, if_pos HZ.out]
    exact ⟨_, rfl, HVg.out, HRg.out, HKg.out⟩
   ·have hg2 : (qf.2.1 != 0) = true := by simpa using hz2
    have HZ := am hz2
    clear hz2
    go_wp2
    go_ret
    rw [HRES.out, if_neg HZ.out]
    exact ⟨_, rfl, Kd.R_nil _ _ _ _ _, HRg.out, HKg.out⟩
set_option maxHeartbeats 16000000 in
set_option maxRecDepth 100000 in
theorem rRows (A : Option Addr) (c : Nat) (s : List S123) (w0 w : World) (g : Nat) (s0 : List Int) (q : St) (h : Rr w0 w g s0 q) (hs : ∀ W, KeepBut w W g none → Kd.C k123 W A s.length s) (hc : s.length ≤ c) (hsl : s.length ≤ 1000000) :
  Calls Tryz.prog 61 #[.pointer (some ⟨g, 0, none⟩), .slice A s.length c] w fun e w' => ∃ vv, e = .returned vv ∧ Kd.R (Kd.slice 68 k68) 89 w' w.heap.size (fun _ => True) vv (takeRowsQ s0 s q).1 ∧ Rr w0 w' g s0 (takeRowsQ s0 s q).2 ∧ KeepBut w w' g none := by
 have HR := am h
 have HS := am hs
 have HC := am hc
 have hlt := h.lt
 have hvr := varQ_range h.inn
 obtain ⟨r, hr⟩ : ∃ r, r = takeRowsQ s0 s q := ⟨_, rfl⟩
 rw [← hr]
 unfold takeRowsQ rowsN at hr
 rw [okL_zero] at hr
 have hF := rVar w0 w g s0 q h
 clear h hs hc
 obtain ⟨n, q1, hkq⟩ : ∃ k q1, varQ s0 q = (k, q1) := ⟨_, _, rfl⟩
 rw [hkq] at hr hvr hF
 dsimp only at hr hvr hF
 clear hkq
 have HRES := am hr
 have HF := am hF
 clear hr hF
 obtain ⟨n0, n1⟩ := hvr
 go_enter Tryz.func61, Tryz.ntmps61
 go_wp2_with fail
 refine HF.out.mono ?_
 rintro e w1 ⟨rfl, hr1, hk1⟩
 have HR1 := am hr1
 have HK1 := am hk1
 clear hr1 hk1 HF
 by_cases hn : n > 65536
 ·have hne := failQ_ne (e := 12) q1 (by decide)
  have hr := HRES.out
  rw [if_pos hn, rowsQ_err hne, if_neg hne] at hr
  have HRR := am hr
  have hF := rFail 12 w0 w1 g s0 q1 HR1.out
  generalize failQ 12 q1 = qd at *
  have hg : (qd.2.1 == 0) = false := beq_eq_false_iff_ne.2 hne
  have hg2 : (qd.2.1 != 0) = true := by simpa using hne
  have HF := am hF
  clear hF hr hne HRES n0 n1
  go_wp2_with fail
  refine HF.out.mono ?_
  rintro e wd ⟨rfl, hrd, hkd⟩
  have HRd := am hrd
  have HKd := am (keep_then HK1.out hkd)
  have c2 := hrd.err
  clear hrd hkd hn
  go_wp2_with fail
  refine wp_loop_rounds 1 ?_
  rw [rounds_succ]
  by_cases hw : 0 < wrap64 n
  ·go_wp2
   go_ret
   rw [HRR.out]
   exact ⟨_, rfl, Kd.R_nil _ _ _ _ _, HRd.out, HKd.out⟩
  ·go_wp2
   go_ret
   rw [HRR.out]
   exact ⟨_, rfl, Kd.R_nil _ _ _ _ _, HRd.out, HKd.out⟩
 ·have hr := HRES.out
  rw [if_neg hn] at hr
  have HRR := am hr
  clear hr HRES n1
  obtain ⟨m, rfl⟩ := Int.eq_ofNat_of_zero_le n0
  rw [Int.toNat_natCast] at HRR
  have hm : m ≤ 65536 := by omega
  have hwm : wrap64 (m : Int) = (m : Int) := by unfold wrap64; omega
  clear n0
  go_wp2_with fail
  clear hn
  go_loopw [6, 7] (fun vb v7 w' => ∃ (i : Nat) (l : List (List S68)) (q' : St), i ≤ m ∧ v7 = .int .i64 i ∧ Aside0 (Rr w0 w' g s0 q') ∧ Aside0 (KeepBut w w' g none) ∧ Aside0 (Kd.R (Kd.slice 68 k68) 89 w' w.heap.size (fun _ => True) vb l) ∧ Aside0 (l.length ≤ i) ∧ Aside0 (rowsQ s0 s (m - i) l q' = rowsQ s0 s m [] q1)) (fun _ i _ => m - (intOf i).toNat)
  case atStart => exact ⟨0, [], q1, Nat.zero_le _, rfl, HR1, HK1, ⟨Kd.R_nil _ _ _ _ _⟩, ⟨Nat.le_refl _⟩, ⟨rfl⟩⟩
  case round =>
   obtain ⟨i, l, q', hi, rfl, HRr, HKr, HV, HLN, HQ⟩ := hrel
   have c2 := HRr.out.err
   by_cases hz : ¬ q'.2.1 = 0
   ·have hb1 : (q'.2.1 == 0) = false := beq_eq_false_iff_ne.2 hz
    have hb2 : (q'.2.1 != 0) = true := by simpa using hz
    have e := HQ.out
    rw [rowsQ_err hz] at e
    rw [← e] at HRR
    dsimp only at HRR
    rw [if_neg hz] at HRR
    clear e hz
    by_cases hlt2 : i < m
    ·go_wp2
     go_ret
     rw [HRR.out]
     exact ⟨_, rfl, Kd.R_nil _ _ _ _ _, HRr.out, HKr.out⟩
    ·go_wp2
     go_ret
     rw [HRR.out]
     exact ⟨_, rfl, Kd.R_nil _ _ _ _ _, HRr.out, HKr.out⟩
   have hq0 := Classical.not_not.1 hz
   clear hz
   rw [hq0] at c2
   by_cases hlt2 : i < m
   ·obtain ⟨B, hB⟩ : ∃ B, B = wr.heap.size := ⟨_, rfl⟩
    have HVB := am (Kd.R_mono (ok' := fun k => k < B) (Kd.R_bound HV.out) (fun k hk => by rw [hB]; exact hk.2.2.1))
    have HBW := am (show w.heap.size ≤ B from hB ▸ HKr.out.1)
    have HBG := am (show g < B by have := HBW.out; omega)
    have HBL := am (show B ≤ wr.heap.size by omega)
    clear hB
    have hst : rowsQ s0 s (m - (i + 1)) (l ++ [(rowQ s0 s.length [] q').1]) (failQ (rowP s (rowQ s0 s.length [] q').1) (rowQ s0 s.length [] q').2) = rowsQ s0 s m [] q1 := by
     rw [← HQ.out, show m - i = (m - (i + 1)) + 1 by omega, rowsQ, if_pos hq0]
    obtain ⟨RW, hRW⟩ : ∃ R, R = rowQ s0 s.length [] q' := ⟨_, rfl⟩
    rw [← hRW] at hst
    have HST := am hst
    have HRW := am hRW
    clear hst hRW HQ hq0
    go_wp2_with fail
    clear c2
    go_loopw [8, 9] (fun vr v9 w' => ∃ (j : Nat) (x : List S68) (qq : St), j ≤ s.length ∧ v9 = .int .i64 j ∧ Aside0 (Rr w0 w' g s0 qq) ∧ Aside0 (KeepBut w w' g none) ∧ Aside0 (Kd.R (Kd.slice 68 k68) 89 w' w.heap.size (fun k => k < B) u6 l) ∧ Aside0 (Kd.R k68 68 w' B (fun _ => True) vr x) ∧ Aside0 (B ≤ w'.heap.size) ∧ Aside0 (x.length ≤ j) ∧ Aside0 (RW = rowQ s0 (s.length - j) x qq)) (fun _ i _ => s.length - (intOf i).toNat)
    case atStart => exact ⟨0, [], q', Nat.zero_le _, rfl, HRr, HKr, HVB, ⟨Kd.R_nil _ _ _ _ _⟩, HBL, ⟨Nat.le_refl _⟩, HRW⟩
    case round =>
     obtain ⟨j, x, qq, hj, rfl, HRs, HKs, HVs, HXs, HBs, HXL, HXQ⟩ := hrel
     by_cases hlt3 : j < s.length
     ·have hst : RW = rowQ s0 (s.length - (j + 1)) (x ++ [(valQ s0 qq).1]) (valQ s0 qq).2 := by rw [HXQ.out, show s.length - j = (s.length - (j + 1)) + 1 by omega, rowQ]
      have hF := fun W (H : Rr w0 W g s0 qq) => rVal w0 W g s0 qq H
      obtain ⟨v, q2, hvq⟩ : ∃ v q2, valQ s0 qq = (v, q2) := ⟨_, _, rfl⟩
      rw [hvq] at hst
      simp only [hvq] at hF
      dsimp only at hst hF
      unfold vCells at hF
      have HF := am (hF _ HRs.out)
      have HST2 := am hst
      clear hF hst hvq HXQ
      go_wp2_with fail
      refine HF.out.mono ?_
      rintro e wa ⟨rfl, hra, hka⟩
      have HRa := am hra
      have HKa := am (keep_then HKs.out hka)
      have HVa := am (R_past HVs.out hlt hka)
      have HXa := am (R_past HXs.out HBG.out hka)
      have HBa := am (Nat.le_trans HBs.out hka.1)
      clear hra hka
      go_wp2_with ((with_reducible refine gate_builtin (b := .append) (xs := #[.tmp 35, .tmp 38]) rfl ?_); at_builtin; refine Kd.R_append k68 (w0 := wa) B rfl (.tmp 35) (.tmp 38) 89 68 (.agg #[.int .i64 0, .int .i64 0, .string ⟨#[]⟩]) 32 rfl Tryz.underlying89 (by kernel_rfl) rfl (by decide) (by decide) u8 x v [.int .i64 v.f0, .int .i64 v.f1, .string v.f2] (fun _ => True) (fun _ => False) rfl rfl (k68_mkM _ _ _ _) (fun _ h => h.elim) (fun _ _ => trivial) HXa.out (Below.refl _ _) HBa.out (by have := HXL.out; omega) ?_; intro vf wf ho hb hg2 _; have HXf := am ho; have HRf := am (HRa.out.grown HXa.out HBG.out hg2); have HKf := am (KeepBut.grown HKa.out HXa.out HBW.out hg2); have HVf := am (Kd.R_grown HVa.out hg2 (fun k hk e => by have := Kd.R_base HXa.out k e.symm; omega)); have HBf := am (Nat.le_trans HBa.out hg2.size); clear ho hb hg2)
      go_roundw
      case rel => exact ⟨j + 1, _, q2, by omega, by go_num, HRf, HKf, HVf, HXf, HBf, ⟨by have := HXL.out; rw [List.length_append, List.length_singleton]; omega⟩, HST2⟩
      case measure => simp [intOf]; omega
     ·obtain rfl : j = s.length := by omega
      have e := HXQ.out
      rw [Nat.sub_self, rowQ] at e
      subst e
      dsimp only at HST
      have c2 := HRs.out.err
      clear HXQ HRW
      by_cases hz : qq.2.1 = 0
      ·have hxl : x.length ≤ 1000000 := by have := HXL.out; omega
       rw [hz] at c2
       clear hz
       obtain ⟨Ax, cx, rfl⟩ := Kd.R_slice HXs.out
       have HRD := am (Kd.R_reads' HXs.out)
       go_wp2_with fail
       refine (refRow_calls A c s Ax cx x wr (HS.out wr HKs.out) HC.out HRD.out.2.2 HRD.out.2.1).mono ?_
       rintro e wf ⟨rfl, hbf⟩
       have HRf := am (HRs.out.below hbf)
       have HKf := am (KeepBut.below_ HKs.out hbf)
       have HVf := am (Kd.R_below HVs.out hbf)
       have HXf := am (Kd.R_below HXs.out hbf)
       have HBf := am (Nat.le_trans HBs.out hbf.size)
       clear hbf c2
       have hF := rFail (rowP s x) w0 wf g s0 qq HRf.out
       generalize rowP s x = sc at *
       generalize failQ sc qq = qf at *
       have HF := am hF
       clear hF
       go_wp2_with fail
       refine HF.out.mono ?_
       rintro e wh ⟨rfl, hrg, hkg⟩
       have HRh := am hrg
       have HKh := am (keep_then HKf.out hkg)
       have HVh := am (R_past HVf.out hlt hkg)
       have HXh := am (R_past HXf.out HBG.out hkg)
       clear hrg hkg
       have HVT := am (Kd.R_mono (ok' := fun _ => True) HVh.out (fun _ _ => trivial))
       have HNE := am (show ∀ k, B ≤ k → some k ≠ u6.ownBlock from fun k hk e => by have : k < B := HVh.out.1 k e.symm; omega)
       have HXB := am (show (Kd.slice 68 k68).M wh w.heap.size (fun k => B ≤ k) x [.slice Ax x.length cx] from ⟨_, rfl, Kd.R_lower (Kd.R_mono (Kd.R_bound HXh.out) (fun _ hk => hk.2.1)) HBW.out⟩)
       go_wp2_with ((with_reducible refine gate_builtin (b := .append) (xs := #[.tmp 50, .tmp 52]) rfl ?_); at_builtin; refine Kd.R_append (Kd.slice 68 k68) (w0 := wh) w.heap.size rfl (.tmp 50) (.tmp 52) 24 89 (.slice none 0 0) 24 rfl Tryz.underlying24 (by kernel_rfl) rfl (by decide) (by decide) u6 l x [.slice Ax x.length cx] (fun _ => True) (fun k => B ≤ k) rfl rfl HXB.out (fun k hk => ⟨trivial, HNE.out k hk⟩) (fun _ _ => trivial) HVT.out (Below.refl _ _) HKh.out.1 (by have := HLN.out; omega) ?_; intro vi wi ho hb hg3 _; have HVi := am ho; have HRi := am (HRh.out.grown HVT.out hlt hg3); have HKi := am (KeepBut.grown HKh.out HVT.out (Nat.le_refl _) hg3); clear ho hb hg3)
       go_roundw
       case rel => exact ⟨i + 1, _, qf, by omega, by go_num, HRi, HKi, HVi, ⟨by have := HLN.out; rw [List.length_append, List.length_singleton]; omega⟩, HST⟩
       case measure => simp [intOf]; omega
      ·have hg : (qq.2.1 == 0) = false := beq_eq_false_iff_ne.2 hz
       rw [failQ_err hz] at HST
       obtain ⟨Ax, cx, rfl⟩ := Kd.R_slice HXs.out
       have HRh := HRs
       have HKh := HKs
       have HVh := HVs
       have HXh := HXs
       clear hz
       have HVT := am (Kd.R_mono (ok' := fun _ => True) HVh.out (fun _ _ => trivial))
       have HNE := am (show ∀ k, B ≤ k → some k ≠ u6.ownBlock from fun k hk e => by have : k < B := HVh.out.1 k e.symm; omega)
       have HXB := am (show (Kd.slice 68 k68).M wr w.heap.size (fun k => B ≤ k) x [.slice Ax x.length cx] from ⟨_, rfl, Kd.R_lower (Kd.R_mono (Kd.R_bound HXh.out) (fun _ hk => hk.2.1)) HBW.out⟩)
       go_wp2_with ((with_reducible refine gate_builtin (b := .append) (xs := #[.tmp 50, .tmp 52]) rfl ?_); at_builtin; refine Kd.R_append (Kd.slice 68 k68) (w0 := wr) w.heap.size rfl (.tmp 50) (.tmp 52) 24 89 (.slice none 0 0) 24 rfl Tryz.underlying24 (by kernel_rfl) rfl (by decide) (by decide) u6 l x [.slice Ax x.length cx] (fun _ => True) (fun k => B ≤ k) rfl rfl HXB.out (fun k hk => ⟨trivial, HNE.out k hk⟩) (fun _ _ => trivial) HVT.out (Below.refl _ _) HKh.out.1 (by have := HLN.out; omega) ?_; intro vi wi ho hb hg3 _; have HVi := am ho; have HRi := am (HRh.out.grown HVT.out hlt hg3); have HKi := am (KeepBut.grown HKh.out HVT.out (Nat.le_refl _) hg3); clear ho hb hg3)
       go_roundw
       case rel => exact ⟨i + 1, _, qq, by omega, by go_num, HRi, HKi, HVi, ⟨by have := HLN.out; rw [List.length_append, List.length_singleton]; omega⟩, HST⟩
       case measure => simp [intOf]; omega
   ·obtain rfl : i = m := by omega
    have e := HQ.out
    rw [Nat.sub_self, rowsQ] at e
    rw [← e] at HRR
    dsimp only at HRR
    rw [if_pos hq0] at HRR
    clear hq0
    go_wp2
    go_ret
    rw [HRR.out]
    exact ⟨_, rfl, HV.out, HRr.out, HKr.out⟩
end
end Go.Proofs.YtjmhiklmlgbifaaGreatDoor.PMan

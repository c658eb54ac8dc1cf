/- Texts, put into one. -/
import Derived.Test.YtjmhiklmlgbifaaGreatDoorPT36
import Derived.Test.YtjmhiklmlgbifaaGreatDoorPTW
set_option linter.unusedVariables false
set_option linter.unusedSimpArgs false
open Go Go.RowKit Go.Proofs.YtjmhiklmlgbifaaGreatDoorW.PrintWords Go.Proofs.YtjmhiklmlgbifaaGreatDoorW.PrintLast Go.Proofs.YtjmhiklmlgbifaaGreatDoorW.PrintMore
namespace Go.Proofs.YtjmhiklmlgbifaaGreatDoor.PMan
section
theorem rangesP_iff (m : Mn) : rangesP m = true ↔ (0 ≤ m.gen ∧ m.gen ≤ 1099511627776) ∧ (0 ≤ m.next ∧ m.next ≤ 1099511627776) ∧ (1 ≤ m.most ∧ m.most ≤ 65536) := by
 unfold rangesP
 simp only [Bool.and_eq_true, decide_eq_true_eq]
set_option maxHeartbeats 8000000 in
set_option maxRecDepth 100000 in
theorem refCheck_calls (m : Mn) (As : Option Addr) (cs : Nat) (Ag : Option Addr) (cg : Nat) (Al : Option Addr) (cl : Nat) (Ae : Option Addr) (ce : Nat) (w : World) (hm : MnC w m As cs Ag cg Al cl Ae ce) (hls : m.schema.length < 1000000000) :
  Calls Tryz.prog 14 #[.agg (mnCells m As cs Ag cg Al cl Ae ce)] w fun e w' => e = .returned (.int .i64 (checkP m)) ∧ Below w.heap.size w w' := by
 have HM := am hm
 have hbl : m.loose.length ≤ 9223372036854775807 := hm.l.2.1
 have hbe : m.entries.length ≤ 9223372036854775807 := hm.e.2.1
 have hbg : m.groups.length ≤ 9223372036854775807 := hm.g.2.1
 clear hm
 unfold mnCells
 obtain ⟨rc, hrc⟩ : ∃ rc : Int, rc = checkP m := ⟨_, rfl⟩
 rw [← hrc]
 have HRC := am hrc
 clear hrc
 go_enter Tryz.func14, Tryz.ntmps14
 go_wp2_with fail
 have hx0 := heap_alloc_new w (.cells #[.int .i64 m.gen, .int .i64 m.next, .slice As m.schema.length cs, .int .i64 m.most, .slice Ag m.groups.length cg, .slice Al m.loose.length cl, .slice Ae m.entries.length ce] 27)
 have hb0 : Below w.heap.size w (w.alloc (.cells #[.int .i64 m.gen, .int .i64 m.next, .slice As m.schema.length cs, .int .i64 m.most, .slice Ag m.groups.length cg, .slice Al m.loose.length cl, .slice Ae m.entries.length ce] 27)) := below_alloc (Below.refl _ _) _
 generalize w.alloc (.cells #[.int .i64 m.gen, .int .i64 m.next, .slice As m.schema.length cs, .int .i64 m.most, .slice Ag m.groups.length cg, .slice Al m.loose.length cl, .slice Ae m.entries.length ce] 27) = W0 at *
 refine (refSchema_calls As cs m.schema W0 (Kd.C_below HM.out.s hb0) HM.out.hs hls).mono ?_
 rintro ev w1 ⟨rfl, ⟨nd, rfl⟩⟩
 have hb1 : Below W0.heap.size W0 (W0.drewN nd) := pw_below_drewN (Below.refl _ _) nd
 have HB1 := am (below_call hb0 hb1)
 have HX1 := am ((hb1.block _ (blk_lt hx0)).trans hx0)
 clear hb1 hb0 hx0
 generalize W0.drewN nd = w1 at *
 clear W0
 have q0 : w1.cell? ⟨w.heap.size, 0, none⟩ = some (.int .i64 m.gen) := blk_cell HX1.out 0
 have q1 : w1.cell? ⟨w.heap.size, 1, none⟩ = some (.int .i64 m.next) := blk_cell HX1.out 1
 have q2 : w1.cell? ⟨w.heap.size, 2, none⟩ = some (.slice As m.schema.length cs) := blk_cell HX1.out 2
 have q3 : w1.cell? ⟨w.heap.size, 3, none⟩ = some (.int .i64 m.most) := blk_cell HX1.out 3
 have q4 : w1.cell? ⟨w.heap.size, 4, none⟩ = some (.slice Ag m.groups.length cg) := blk_cell HX1.out 4
 have q5 : w1.cell? ⟨w.heap.size, 5, none⟩ = some (.slice Al m.loose.length cl) := blk_cell HX1.out 5
 have q6 : w1.cell? ⟨w.heap.size, 6, none⟩ = some (.slice Ae m.entries.length ce) := blk_cell HX1.out 6
 obtain ⟨e1, he1⟩ : ∃ e1 : Int, e1 = schemaP m.schema := ⟨_, rfl⟩
 rw [← he1]
 have HE1 := am he1
 clear he1
 by_cases z1 : ¬ e1 = 0
 ·have z1' : (e1 != 0) = true := by simpa using z1
  go_wp2
  go_ret
  exact ⟨by rw [HRC.out]; unfold checkP; rw [if_neg (by rw [← HE1.out]; simpa using z1'), HE1.out]; rfl, HB1.out⟩
 have z1 := Classical.not_not.1 z1
 subst z1
 have hrng : ¬ ((0 ≤ m.gen ∧ m.gen ≤ 1099511627776) ∧ (0 ≤ m.next ∧ m.next ≤ 1099511627776) ∧ (1 ≤ m.most ∧ m.most ≤ 65536)) → rc = 5 := fun h => by rw [HRC.out]; unfold checkP; rw [if_pos HE1.out.symm, if_neg (fun q => h ((rangesP_iff m).1 q))]
 by_cases g0 : m.gen < 0
 ·go_wp2
  go_ret
  exact ⟨by rw [hrng (by omega)]; rfl, HB1.out⟩
 by_cases g1 : m.gen > 1099511627776
 ·go_wp2
  go_ret
  exact ⟨by rw [hrng (by omega)]; rfl, HB1.out⟩
 by_cases g2 : m.next < 0
 ·go_wp2
  go_ret
  exact ⟨by rw [hrng (by omega)]; rfl, HB1.out⟩
 by_cases g3 : m.next > 1099511627776
 ·go_wp2
  go_ret
  exact ⟨by rw [hrng (by omega)]; rfl, HB1.out⟩
 by_cases g4 : m.most < 1
 ·go_wp2
  go_ret
  exact ⟨by rw [hrng (by omega)]; rfl, HB1.out⟩
 by_cases g5 : m.most > 65536
 ·go_wp2
  go_ret
  exact ⟨by rw [hrng (by omega)]; rfl, HB1.out⟩
 have HRP := am ((rangesP_iff m).2 ⟨⟨by omega, by omega⟩, ⟨by omega, by omega⟩, ⟨by omega, by omega⟩⟩)
 clear hrng
 by_cases gg : (m.groups.length : Int) > 1048576
 ·go_wp2
  go_ret
  exact ⟨by rw [HRC.out]; unfold checkP groupsP; rw [if_pos HE1.out.symm, if_pos (show rangesP m = true from HRP.out), if_pos (show (m.groups.length : Int) > 1048576 by omega), if_neg (by decide)]; rfl, HB1.out⟩
 have hrg : rc = (if groupsL m.next m.most m.schema m.groups = 0 then (if looseL m.schema m.loose = 0 then (if (m.loose.length : Int) ≥ m.most then 12 else if (m.entries.length : Int) = 0 then 8 else entriesL m.entries) else looseL m.schema m.loose) else groupsL m.next m.most m.schema m.groups) := by
  rw [HRC.out]; unfold checkP groupsP; rw [if_pos HE1.out.symm, if_pos (show rangesP m = true from HRP.out), if_neg gg]
 have HRG := am hrg
 clear hrg
 go_wp2_with fail
 clear q0 q1 q2 q3 q4 q5 q6
 go_loopw [4] (fun v4 w' => ∃ j : Nat, j ≤ m.groups.length ∧ v4 = .int .i64 j ∧ Aside0 (groupsL m.next m.most m.schema (m.groups.drop j) = groupsL m.next m.most m.schema m.groups) ∧ Aside0 (Below w.heap.size w w') ∧ Aside0 (w'.heap[w.heap.size]? = some (.cells #[.int .i64 m.gen, .int .i64 m.next, .slice As m.schema.length cs, .int .i64 m.most, .slice Ag m.groups.length cg, .slice Al m.loose.length cl, .slice Ae m.entries.length ce] 27 (0, 0)))) (fun i _ => m.groups.length - (intOf i).toNat)
 case atStart => exact ⟨0, Nat.zero_le _, rfl, ⟨rfl⟩, HB1, HX1⟩
 case round =>
  obtain ⟨j, hj, rfl, HX, HB, HH⟩ := hrel
  have q4 : wr.cell? ⟨w.heap.size, 4, none⟩ = some (.slice Ag m.groups.length cg) := blk_cell HH.out 4
  by_cases hlt : j < m.groups.length
  ·obtain ⟨b, o, ks, e1, hK, hcl, hmm⟩ := C_mid (Kd.C_below HM.out.g HB.out) zRf j hlt (by decide)
   have hs := groupsL_at m.next m.most m.schema m.groups j hlt
   rw [HX.out] at hs
   generalize m.groups.getD j zRf = x at *
   obtain ⟨A, c, B, d, rfl, h32, hc, hC, hd, hD⟩ := kRf_open hK
   rw [kRf_sz] at hmm hcl
   have HS := am hs
   have HCL := am hcl
   have HMM := am hmm
   have HC := am hC
   have H32 := am h32
   have HCC := am hc
   have HSZ := am (show ((rfCells x A c B d).toArray).size = 37 from by rw [List.size_toArray]; exact hcl)
   have HDL := am (hd_len x.hd A c h32)
   have HB36 := am (rf_36 x A c B d h32)
   cases e1
   clear hs hK hcl hmm hC h32 hc hD hd
   by_cases i0 : x.id < 0
   ·go_wp2_with (first | (refine wpList_load_mid rfl 66 (.tmp 57) rfl b (o + j * 37) rfl (rfCells x A c B d) _ HMM.out Tryz.underlying66 rfl (by rw [HCL.out]; kernel_rfl) ?_) | (refine wpList_store_row rfl 66 (.tmp 5) (.tmp 58) rfl wr.heap.size ((rfCells x A c B d).toArray) rfl rfl 66 _ (heap_alloc_new wr _) (by rw [HSZ.out]; kernel_rfl) (by rw [HSZ.out]; rfl) (rf_all _ _ _ _ _) ?_; rw [World.setRow_alloc_new]; have hx := heap_alloc_new wr (.cells (rfCells x A c B d).toArray 66); have hbr : Below wr.heap.size wr (wr.alloc (.cells (rfCells x A c B d).toArray 66)) := below_alloc (Below.refl _ _) _; have HBW := am (below_call HB.out hbr); have HH2 := am ((hbr.block _ (blk_lt HH.out)).trans HH.out); have HC2 := am (Kd.C_below HC.out hbr); have HX2 := am hx; have HRD := am (range_of (pre := [.int .i64 x.id]) (cs := hdCells x.hd A c) (post := [.slice B x.dead.length d]) hx 1 rfl); clear hx hbr q4; generalize (wr.alloc (.cells (rfCells x A c B d).toArray 66)) = W2 at *; have p0 : W2.cell? ⟨wr.heap.size, 0, none⟩ = some (.int .i64 x.id) := (blk_cell HX2.out 0).trans rfl; have q1 : W2.cell? ⟨w.heap.size, 1, none⟩ = some (.int .i64 m.next) := blk_cell HH2.out 1; have q2 : W2.cell? ⟨w.heap.size, 2, none⟩ = some (.slice As m.schema.length cs) := blk_cell HH2.out 2; have q4 := trivial))
    go_ret
    exact ⟨by rw [HRG.out, if_neg (by rw [HS.out, if_neg (by omega)]; decide), HS.out, if_neg (by omega)]; rfl, HBW.out⟩
   by_cases i1 : x.id ≥ m.next
   ·go_wp2_with (first | (refine wpList_load_mid rfl 66 (.tmp 57) rfl b (o + j * 37) rfl (rfCells x A c B d) _ HMM.out Tryz.underlying66 rfl (by rw [HCL.out]; kernel_rfl) ?_) | (refine wpList_store_row rfl 66 (.tmp 5) (.tmp 58) rfl wr.heap.size ((rfCells x A c B d).toArray) rfl rfl 66 _ (heap_alloc_new wr _) (by rw [HSZ.out]; kernel_rfl) (by rw [HSZ.out]; rfl) (rf_all _ _ _ _ _) ?_; rw [World.setRow_alloc_new]; have hx := heap_alloc_new wr (.cells (rfCells x A c B d).toArray 66); have hbr : Below wr.heap.size wr (wr.alloc (.cells (rfCells x A c B d).toArray 66)) := below_alloc (Below.refl _ _) _; have HBW := am (below_call HB.out hbr); have HH2 := am ((hbr.block _ (blk_lt HH.out)).trans HH.out); have HC2 := am (Kd.C_below HC.out hbr); have HX2 := am hx; have HRD := am (range_of (pre := [.int .i64 x.id]) (cs := hdCells x.hd A c) (post := [.slice B x.dead.length d]) hx 1 rfl); clear hx hbr q4; generalize (wr.alloc (.cells (rfCells x A c B d).toArray 66)) = W2 at *; have p0 : W2.cell? ⟨wr.heap.size, 0, none⟩ = some (.int .i64 x.id) := (blk_cell HX2.out 0).trans rfl; have q1 : W2.cell? ⟨w.heap.size, 1, none⟩ = some (.int .i64 m.next) := blk_cell HH2.out 1; have q2 : W2.cell? ⟨w.heap.size, 2, none⟩ = some (.slice As m.schema.length cs) := blk_cell HH2.out 2; have q4 := trivial))
    go_ret
    exact ⟨by rw [HRG.out, if_neg (by rw [HS.out, if_neg (by omega)]; decide), HS.out, if_neg (by omega)]; rfl, HBW.out⟩
   have hE := HS.out
   rw [if_pos (by omega)] at hE
   go_wp2_with (first | (refine wpList_load_mid rfl 66 (.tmp 57) rfl b (o + j * 37) rfl (rfCells x A c B d) _ HMM.out Tryz.underlying66 rfl (by rw [HCL.out]; kernel_rfl) ?_) | (refine wpList_store_row rfl 66 (.tmp 5) (.tmp 58) rfl wr.heap.size ((rfCells x A c B d).toArray) rfl rfl 66 _ (heap_alloc_new wr _) (by rw [HSZ.out]; kernel_rfl) (by rw [HSZ.out]; rfl) (rf_all _ _ _ _ _) ?_; rw [World.setRow_alloc_new]; have hx := heap_alloc_new wr (.cells (rfCells x A c B d).toArray 66); have hbr : Below wr.heap.size wr (wr.alloc (.cells (rfCells x A c B d).toArray 66)) := below_alloc (Below.refl _ _) _; have HBW := am (below_call HB.out hbr); have HH2 := am ((hbr.block _ (blk_lt HH.out)).trans HH.out); have HC2 := am (Kd.C_below HC.out hbr); have HX2 := am hx; have HRD := am (range_of (pre := [.int .i64 x.id]) (cs := hdCells x.hd A c) (post := [.slice B x.dead.length d]) hx 1 rfl); clear hx hbr q4; generalize (wr.alloc (.cells (rfCells x A c B d).toArray 66)) = W2 at *; have p0 : W2.cell? ⟨wr.heap.size, 0, none⟩ = some (.int .i64 x.id) := (blk_cell HX2.out 0).trans rfl; have q1 : W2.cell? ⟨w.heap.size, 1, none⟩ = some (.int .i64 m.next) := blk_cell HH2.out 1; have q2 : W2.cell? ⟨w.heap.size, 2, none⟩ = some (.slice As m.schema.length cs) := blk_cell HH2.out 2; have q4 := trivial) | (refine wpList_load_mid rfl 64 (.tmp 69) rfl wr.heap.size 1 rfl (hdCells x.hd A c) _ HRD.out Tryz.underlying64 rfl (by rw [HDL.out]; kernel_rfl) ?_) | fail)
   refine (refSound_calls x.hd A c As cs m.schema W2 H32.out HCC.out HC2.out (Kd.C_below HM.out.s HBW.out) HM.out.hs).mono ?_
   rintro e w4 ⟨rfl, hb4⟩
   have HB4 := am (below_call HBW.out hb4)
   have HH4 := am ((hb4.block _ (blk_lt HH2.out)).trans HH2.out)
   have hx4 := (hb4.block _ (blk_lt HX2.out)).trans HX2.out
   clear hb4 p0 q1 q2
   have p1 : w4.cell? ⟨wr.heap.size, 1, none⟩ = some (.int .i64 x.hd.rows) := (blk_cell hx4 1).trans rfl
   have p36 : w4.cell? ⟨wr.heap.size, 36, none⟩ = some (.slice B x.dead.length d) := (blk_cell hx4 36).trans HB36.out
   have q3 : w4.cell? ⟨w.heap.size, 3, none⟩ = some (.int .i64 m.most) := blk_cell HH4.out 3
   clear hx4 q4
   cases hso : soundP x.hd m.schema with
   | false =>
    rw [hso, if_neg (by simp)] at hE
    have HE := am hE
    clear hE
    go_wp2
    go_ret
    exact ⟨by rw [HRG.out, if_neg (by rw [HE.out]; decide), HE.out]; rfl, HB4.out⟩
   | true =>
    rw [hso] at hE
    by_cases hro : x.hd.rows > m.most
    ·rw [if_neg (by omega)] at hE
     have HE := am hE
     clear hE
     go_wp2
     go_ret
     exact ⟨by rw [HRG.out, if_neg (by rw [HE.out]; decide), HE.out]; rfl, HB4.out⟩
    ·by_cases hde : (x.dead.length : Int) > 65536
     ·rw [if_neg (by omega)] at hE
      have HE := am hE
      clear hE
      go_wp2
      go_ret
      exact ⟨by rw [HRG.out, if_neg (by rw [HE.out]; decide), HE.out]; rfl, HB4.out⟩
     ·rw [if_pos ⟨rfl, by omega, by omega⟩] at hE
      have HE := am hE
      clear hE
      go_wp2
      go_roundw
      case rel => exact ⟨j + 1, by omega, by go_num, ⟨HE.out.symm⟩, HB4, HH4⟩
      case measure => simp [intOf]; omega
  ·obtain rfl : j = m.groups.length := by omega
   have hg0 : groupsL m.next m.most m.schema m.groups = 0 := by rw [← HX.out, List.drop_eq_nil_of_le (Nat.le_refl _)]; rfl
   have hrl := HRG.out
   rw [if_pos hg0] at hrl
   have HRL := am hrl
   clear hrl hg0 HX
   have HBa := HB
   have HHa := HH
   go_wp2_with fail
   clear q4
   go_loopw [6] (fun v6 w' => ∃ j : Nat, j ≤ m.loose.length ∧ v6 = .int .i64 j ∧ Aside0 (looseL m.schema (m.loose.drop j) = looseL m.schema m.loose) ∧ Aside0 (Below w.heap.size w w') ∧ Aside0 (w'.heap[w.heap.size]? = some (.cells #[.int .i64 m.gen, .int .i64 m.next, .slice As m.schema.length cs, .int .i64 m.most, .slice Ag m.groups.length cg, .slice Al m.loose.length cl, .slice Ae m.entries.length ce] 27 (0, 0)))) (fun i _ => m.loose.length - (intOf i).toNat)
   case atStart => exact ⟨0, Nat.zero_le _, rfl, ⟨rfl⟩, HBa, HHa⟩
   case round =>
    clear HB HH HBa HHa
    obtain ⟨j, hj, rfl, HX, HB, HH⟩ := hrel
    have q2 : wr.cell? ⟨w.heap.size, 2, none⟩ = some (.slice As m.schema.length cs) := blk_cell HH.out 2
    have q5 : wr.cell? ⟨w.heap.size, 5, none⟩ = some (.slice Al m.loose.length cl) := blk_cell HH.out 5
    by_cases hlt : j < m.loose.length
    ·obtain ⟨ad, A0, c0, e1, x0, hc0, hC⟩ := at_L6 (Kd.C_below HM.out.l HB.out) (j : Int) (by omega) (by omega)
     have hs := looseL_at m.schema m.loose j hlt
     rw [HX.out] at hs
     generalize rd_L6 m.loose (j : Int) = r at *
     rw [show ((j : Int)).toNat = j from by omega] at x0
     have HS := am hs
     have HCD : Aside0 (Kd.C k68 wr.drew A0 r.length r) := am hC
     cases e1
     clear hs hC
     have HBD := am (below_drew HB.out)
     have HHD : Aside0 (wr.drew.heap[w.heap.size]? = some (.cells #[.int .i64 m.gen, .int .i64 m.next, .slice As m.schema.length cs, .int .i64 m.most, .slice Ag m.groups.length cg, .slice (some ad) m.loose.length cl, .slice Ae m.entries.length ce] 27 (0, 0))) := HH
     have q2 : wr.drew.cell? ⟨w.heap.size, 2, none⟩ = some (.slice As m.schema.length cs) := q2
     have q5 : wr.drew.cell? ⟨w.heap.size, 5, none⟩ = some (.slice (some ad) m.loose.length cl) := q5
     have x0 : wr.drew.cell? (ad.add j) = some (.slice A0 r.length c0) := x0
     go_wp2_with fail
     refine start_ (n := 9) (S := fun w' => w'.cell? ⟨w.heap.size, 2, none⟩ = some (.slice As m.schema.length cs) ∧ w'.cell? ⟨w.heap.size, 5, none⟩ = some (.slice (some ad) m.loose.length cl) ∧ w'.cell? (ad.add j) = some (.slice A0 r.length c0)) (ds := []) #[false, false, false, false, false, false, false, false, false] (by kernel_rfl) rfl rfl ⟨q2, q5, x0⟩ (fun hHeld => ?_)
     generalize wr.drew = W2 at *
     refine pu 0 (some 96) ?_ ?_ ?_ ?_ ?_
     rotate_left 2
     ·intro w'
      go_simp
      with_reducible rfl
     ·simp only [Act.put, sA1, sA2, sA3, i64_w, i32_w]
      rfl
     refine pu 2 (some 98) ?_ ?_ ?_ ?_ ?_
     rotate_left 2
     ·intro w'
      go_simp
      with_reducible rfl
     ·simp only [Act.put, sA1, sA2, sA3, i64_w, i32_w]
      rfl
     refine pu 4 (some 100) ?_ ?_ ?_ ?_ ?_
     rotate_left 2
     ·intro w'
      go_simp
      with_reducible rfl
     ·simp only [Act.put, sA1, sA2, sA3, i64_w, i32_w]
      rfl
     refine tk 1 (some 97) ?_ ?_ hHeld ?_ ?_ ?_
     rotate_left 2
     ·rintro w' ⟨s0, s1, s2⟩
      go_simp
      with_reducible rfl
     ·simp only [Act.put, sA1, sA2, sA3, i64_w, i32_w]
      rfl
     refine tk 3 (some 99) ?_ ?_ hHeld ?_ ?_ ?_
     rotate_left 2
     ·rintro w' ⟨s0, s1, s2⟩
      go_simp
      with_reducible rfl
     ·simp only [Act.put, sA1, sA2, sA3, i64_w, i32_w]
      rfl
     refine pu 5 (some 101) ?_ ?_ ?_ ?_ ?_
     rotate_left 2
     ·intro w'
      go_simp
      with_reducible rfl
     ·simp only [Act.put, sA1, sA2, sA3, i64_w, i32_w]
      rfl
     refine tk 6 (some 102) ?_ ?_ hHeld ?_ ?_ ?_
     rotate_left 2
     ·rintro w' ⟨s0, s1, s2⟩
      go_simp
      with_reducible rfl
     ·simp only [Act.put, sA1, sA2, sA3, i64_w, i32_w]
      rfl
     refine on (i := 7) (N := some 103) rfl rfl (by kernel_rfl) (by decide) (fun K hK => ?_)
     refine goes_ Tryz.func51 (by kernel_rfl) rfl #[.slice As m.schema.length cs, .slice A0 r.length c0] (by rfl) rfl rfl (by simp only [List.map_toArray, List.map_cons, List.map_nil]; rfl) ?_
     with_reducible refine (refRow_calls As cs m.schema A0 c0 r W2 (Kd.C_below HM.out.s HBD.out) HM.out.hs HCD.out hc0).mono ?_
     rintro e w4 ⟨rfl, hb4⟩
     refine ⟨_, rfl, ?_⟩
     have HB4 := am hb4
     clear hb4
     refine hK.out _ _ ⟨pw_cell_below HB4.out q2, pw_cell_below HB4.out q5, pw_cell_below HB4.out x0⟩ (fun hHeld => ?_)
     clear hK K
     refine norm_ (a' := ?_) ?_ ?_
     rotate_left
     ·show Act.put _ (some 103) _ = _
      simp only [Act.put, sA1, sA2, sA3, i64_w, i32_w]
      rfl
     refine pu 8 (some 7) ?_ ?_ ?_ ?_ ?_
     rotate_left 2
     ·intro w'
      go_simp
      with_reducible rfl
     ·simp only [Act.put, sA1, sA2, sA3, i64_w, i32_w]
      rfl
     refine done_ (by kernel_rfl) ?_
     have HB5 := am (below_call HBD.out HB4.out)
     have HH5 := am ((HB4.out.block _ (blk_lt HHD.out)).trans HHD.out)
     clear q2 q5 x0
     obtain ⟨e3, he3⟩ : ∃ e3 : Int, e3 = rowP m.schema r := ⟨_, rfl⟩
     rw [← he3]
     have hE := HS.out
     rw [← he3] at hE
     clear he3
     by_cases z3 : ¬ e3 = 0
     ·have z3' : (e3 != 0) = true := by simpa using z3
      rw [if_neg z3] at hE
      have HE := am hE
      have hr5 := HRL.out
      rw [HE.out, if_neg z3] at hr5
      have HR5 := am hr5
      clear hE hr5
      go_wp2
      go_ret
      exact ⟨by rw [HR5.out]; rfl, HB5.out⟩
     ·have z3 := Classical.not_not.1 z3
      subst z3
      rw [if_pos rfl] at hE
      have HE := am hE
      clear hE
      go_wp2
      go_roundw
      case rel => exact ⟨j + 1, by omega, by go_num, ⟨HE.out.symm⟩, HB5, HH5⟩
      case measure => simp [intOf]; omega
    ·obtain rfl : j = m.loose.length := by omega
     have hl0 : looseL m.schema m.loose = 0 := by rw [← HX.out, List.drop_eq_nil_of_le (Nat.le_refl _)]; rfl
     have hre := HRL.out
     rw [if_pos hl0] at hre
     have q3 : wr.cell? ⟨w.heap.size, 3, none⟩ = some (.int .i64 m.most) := blk_cell HH.out 3
     have q6 : wr.cell? ⟨w.heap.size, 6, none⟩ = some (.slice Ae m.entries.length ce) := blk_cell HH.out 6
     by_cases hmo : (m.loose.length : Int) ≥ m.most
     ·rw [if_pos hmo] at hre
      have HRE := am hre
      clear hre hl0
      go_wp2
      go_ret
      exact ⟨by rw [HRE.out]; rfl, HB.out⟩
     rw [if_neg hmo] at hre
     by_cases hen : (m.entries.length : Int) = 0
     ·rw [if_pos hen] at hre
      have HRE := am hre
      have hen' : ((m.entries.length : Int) == 0) = true := by simpa using hen
      clear hre hl0 hen
      go_wp2
      go_ret
      exact ⟨by rw [HRE.out]; rfl, HB.out⟩
     rw [if_neg hen] at hre
     have HRE := am hre
     have hen' : ((m.entries.length : Int) == 0) = false := by simpa using hen
     have HBa := HB
     have HHa := HH
     clear hre hl0 hen HX
     go_wp2_with fail
     clear q2 q3 q5 q6
     go_loopw [8] (fun v8 w' => ∃ j : Nat, j ≤ m.entries.length ∧ v8 = .int .i64 j ∧ Aside0 (entriesL (m.entries.drop j) = entriesL m.entries) ∧ Aside0 (Below w.heap.size w w') ∧ Aside0 (w'.heap[w.heap.size]? = some (.cells #[.int .i64 m.gen, .int .i64 m.next, .slice As m.schema.length cs, .int .i64 m.most, .slice Ag m.groups.length cg, .slice Al m.loose.length cl, .slice Ae m.entries.length ce] 27 (0, 0)))) (fun i _ => m.entries.length - (intOf i).toNat)
     case atStart => exact ⟨0, Nat.zero_le _, rfl, ⟨rfl⟩, HBa, HHa⟩
     case round =>
      clear HB HH HBa HHa
      obtain ⟨j, hj, rfl, HX, HB, HH⟩ := hrel
      have q6 : wr.cell? ⟨w.heap.size, 6, none⟩ = some (.slice Ae m.entries.length ce) := blk_cell HH.out 6
      by_cases hlt : j < m.entries.length
      ·obtain ⟨b, o, ks, e1, hK, hcl, hmm⟩ := C_mid (Kd.C_below HM.out.e HB.out) zEn j hlt (by decide)
       have hs := entriesL_at m.entries j hlt
       rw [HX.out] at hs
       generalize m.entries.getD j zEn = x at *
       obtain ⟨rfl, hs1, hr1⟩ := kEn_open hK
       rw [kEn_sz] at hmm hcl
       have g32 : wr.cell? ⟨b, o + j * 65 + 32, none⟩ = some (.int .i64 x.g) := hmm 32 _ (by unfold enCells hashCells; rw [List.getElem?_append_right (by rw [List.length_map]; omega), List.length_map, hs1]; rfl)
       cases e1
       clear hK hcl hmm hs1 hr1
       cases hrb : rightB x.g with
       | false =>
        rw [hrb, if_neg (by decide)] at hs
        have HS := am hs
        clear hs
        have hno : x.g < 0 ∨ x.g > 1048576 := by
         unfold rightB at hrb
         simp only [Bool.and_eq_false_iff, decide_eq_false_iff_not] at hrb
         omega
        clear hrb
        rcases hno with hno | hno
        ·go_wp2
         go_ret
         exact ⟨by rw [HRE.out, ← HS.out]; rfl, HB.out⟩
        ·by_cases h00 : x.g < 0
         ·omega
         go_wp2
         go_ret
         exact ⟨by rw [HRE.out, ← HS.out]; rfl, HB.out⟩
       | true =>
        rw [hrb, if_pos rfl] at hs
        have HS := am hs
        clear hs
        unfold rightB at hrb
        simp only [Bool.and_eq_true, decide_eq_true_eq] at hrb
        obtain ⟨hn0, hn1⟩ := hrb
        go_wp2
        go_roundw
        case rel => exact ⟨j + 1, by omega, by go_num, ⟨HS.out.symm⟩, HB, HH⟩
        case measure => simp [intOf]; omega
      ·obtain rfl : j = m.entries.length := by omega
       go_wp2
       go_ret
       exact ⟨by rw [HRE.out, ← HX.out, List.drop_eq_nil_of_le (Nat.le_refl _)]; rfl, HB.out⟩
end
end Go.Proofs.YtjmhiklmlgbifaaGreatDoor.PMan

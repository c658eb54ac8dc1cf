/- Texts of this proof, put into one, without what it does not use: MrE, MpJ, MpK, MpL. -/
import Derived.Test.YtjmhiklmlgbifaaGreatDoorPU10
import Derived.Test.YtjmhiklmlgbifaaGreatDoorPU6
import Derived.Lib.ConvBytes
import Derived.Lib.Zigzag
section
namespace Go.Proofs.YtjmhiklmlgbifaaGreatDoor.PMan
open Go.RowKit Go.Proofs.YtjmhiklmlgbifaaGreatDoorW.PrintWords Go.Proofs.YtjmhiklmlgbifaaGreatDoorW.PrintLast Go.Proofs.YtjmhiklmlgbifaaGreatDoorW.PrintMore
set_option linter.unusedVariables false
set_option linter.unusedSimpArgs false
theorem rangesP_iff (m : Mn) : rangesP m = true ↔ (0 ≤ m.gen ∧ m.gen ≤ 1099511627776) ∧ (0 ≤ m.next ∧ m.next ≤ 1099511627776) ∧ (1 ≤ m.most ∧ m.most ≤ 65536) := by
  unfold rangesP
  simp only [Bool.and_eq_true, decide_eq_true_eq]
set_option maxHeartbeats 8000000 in
set_option maxRecDepth 100000 in
theorem refCheck_calls (m : Mn) (As : Option Addr) (cs : Nat) (Ag : Option Addr) (cg : Nat) (Al : Option Addr) (cl : Nat) (Ae : Option Addr) (ce : Nat) (w : World) (hm : MnC w m As cs Ag cg Al cl Ae ce) (hls : m.schema.length < 1000000000) :
    Calls Tryz.prog 14 #[.agg (mnCells m As cs Ag cg Al cl Ae ce)] w fun e w' => e = .returned (.int .i64 (checkP m)) ∧ Below w.heap.size w w' := by
  have HM := Aside0.mk hm
  have hbl : m.loose.length ≤ 9223372036854775807 := hm.l.2.1
  have hbe : m.entries.length ≤ 9223372036854775807 := hm.e.2.1
  have hbg : m.groups.length ≤ 9223372036854775807 := hm.g.2.1
  clear hm
  unfold mnCells
  obtain ⟨rc, hrc⟩ : ∃ rc : Int, rc = checkP m := ⟨_, rfl⟩
  rw [← hrc]
  have HRC := Aside0.mk hrc
  clear hrc
  go_enter Tryz.func14, Tryz.ntmps14
  go_wp2_with fail
  have hx0 := heap_alloc_new w (.cells #[.int .i64 m.gen, .int .i64 m.next, .slice As m.schema.length cs, .int .i64 m.most, .slice Ag m.groups.length cg, .slice Al m.loose.length cl, .slice Ae m.entries.length ce] 27)
  have hb0 : Below w.heap.size w (w.alloc (.cells #[.int .i64 m.gen, .int .i64 m.next, .slice As m.schema.length cs, .int .i64 m.most, .slice Ag m.groups.length cg, .slice Al m.loose.length cl, .slice Ae m.entries.length ce] 27)) := below_alloc (Below.refl _ _) _
  generalize w.alloc (.cells #[.int .i64 m.gen, .int .i64 m.next, .slice As m.schema.length cs, .int .i64 m.most, .slice Ag m.groups.length cg, .slice Al m.loose.length cl, .slice Ae m.entries.length ce] 27) = W0 at *
  refine (refSchema_calls As cs m.schema W0 (Kd.C_below HM.out.s hb0) HM.out.hs hls).mono ?_
  rintro ev w1 ⟨rfl, ⟨nd, rfl⟩⟩
  have hb1 : Below W0.heap.size W0 (W0.drewN nd) := pw_below_drewN (Below.refl _ _) nd
  have HB1 := Aside0.mk (below_call hb0 hb1)
  have HX1 := Aside0.mk ((hb1.block _ (blk_lt hx0)).trans hx0)
  clear hb1 hb0 hx0
  generalize W0.drewN nd = w1 at *
  clear W0
  have q0 : w1.cell? ⟨w.heap.size, 0, none⟩ = some (.int .i64 m.gen) := blk_cell HX1.out 0
  have q1 : w1.cell? ⟨w.heap.size, 1, none⟩ = some (.int .i64 m.next) := blk_cell HX1.out 1
  have q2 : w1.cell? ⟨w.heap.size, 2, none⟩ = some (.slice As m.schema.length cs) := blk_cell HX1.out 2
  have q3 : w1.cell? ⟨w.heap.size, 3, none⟩ = some (.int .i64 m.most) := blk_cell HX1.out 3
  have q4 : w1.cell? ⟨w.heap.size, 4, none⟩ = some (.slice Ag m.groups.length cg) := blk_cell HX1.out 4
  have q5 : w1.cell? ⟨w.heap.size, 5, none⟩ = some (.slice Al m.loose.length cl) := blk_cell HX1.out 5
  have q6 : w1.cell? ⟨w.heap.size, 6, none⟩ = some (.slice Ae m.entries.length ce) := blk_cell HX1.out 6
  obtain ⟨e1, he1⟩ : ∃ e1 : Int, e1 = schemaP m.schema := ⟨_, rfl⟩
  rw [← he1]
  have HE1 := Aside0.mk he1
  clear he1
  by_cases z1 : ¬ e1 = 0
  · have z1' : (e1 != 0) = true := by simpa using z1
    go_wp2
    go_ret
    exact ⟨by rw [HRC.out]; unfold checkP; rw [if_neg (by rw [← HE1.out]; simpa using z1'), HE1.out]; rfl, HB1.out⟩
  have z1 := Classical.not_not.1 z1
  subst z1
  have hrng : ¬ ((0 ≤ m.gen ∧ m.gen ≤ 1099511627776) ∧ (0 ≤ m.next ∧ m.next ≤ 1099511627776) ∧ (1 ≤ m.most ∧ m.most ≤ 65536)) → rc = 5 := fun h => by rw [HRC.out]; unfold checkP; rw [if_pos HE1.out.symm, if_neg (fun q => h ((rangesP_iff m).1 q))]
  by_cases g0 : m.gen < 0
  · go_wp2
    go_ret
    exact ⟨by rw [hrng (by omega)]; rfl, HB1.out⟩
  by_cases g1 : m.gen > 1099511627776
  · go_wp2
    go_ret
    exact ⟨by rw [hrng (by omega)]; rfl, HB1.out⟩
  by_cases g2 : m.next < 0
  · go_wp2
    go_ret
    exact ⟨by rw [hrng (by omega)]; rfl, HB1.out⟩
  by_cases g3 : m.next > 1099511627776
  · go_wp2
    go_ret
    exact ⟨by rw [hrng (by omega)]; rfl, HB1.out⟩
  by_cases g4 : m.most < 1
  · go_wp2
    go_ret
    exact ⟨by rw [hrng (by omega)]; rfl, HB1.out⟩
  by_cases g5 : m.most > 65536
  · go_wp2
    go_ret
    exact ⟨by rw [hrng (by omega)]; rfl, HB1.out⟩
  have HRP := Aside0.mk ((rangesP_iff m).2 ⟨⟨by omega, by omega⟩, ⟨by omega, by omega⟩, ⟨by omega, by omega⟩⟩)
  clear hrng
  by_cases gg : (m.groups.length : Int) > 1048576
  · go_wp2
    go_ret
    exact ⟨by rw [HRC.out]; unfold checkP groupsP; rw [if_pos HE1.out.symm, if_pos (show rangesP m = true from HRP.out), if_pos (show (m.groups.length : Int) > 1048576 by omega), if_neg (by decide)]; rfl, HB1.out⟩
  have hrg : rc = (if groupsL m.next m.most m.schema m.groups = 0 then (if looseL m.schema m.loose = 0 then (if (m.loose.length : Int) ≥ m.most then 12 else if (m.entries.length : Int) = 0 then 8 else entriesL m.entries) else looseL m.schema m.loose) else groupsL m.next m.most m.schema m.groups) := by
    rw [HRC.out]; unfold checkP groupsP; rw [if_pos HE1.out.symm, if_pos (show rangesP m = true from HRP.out), if_neg gg]
  have HRG := Aside0.mk hrg
  clear hrg
  go_wp2_with fail
  clear q0 q1 q2 q3 q4 q5 q6
  go_loopw [4] (fun v4 w' => ∃ j : Nat, j ≤ m.groups.length ∧ v4 = .int .i64 j ∧ Aside0 (groupsL m.next m.most m.schema (m.groups.drop j) = groupsL m.next m.most m.schema m.groups) ∧ Aside0 (Below w.heap.size w w') ∧ Aside0 (w'.heap[w.heap.size]? = some (.cells #[.int .i64 m.gen, .int .i64 m.next, .slice As m.schema.length cs, .int .i64 m.most, .slice Ag m.groups.length cg, .slice Al m.loose.length cl, .slice Ae m.entries.length ce] 27 (0, 0)))) (fun i _ => m.groups.length - (intOf i).toNat)
  case atStart => exact ⟨0, Nat.zero_le _, rfl, ⟨rfl⟩, HB1, HX1⟩
  case round =>
    obtain ⟨j, hj, rfl, HX, HB, HH⟩ := hrel
    have q4 : wr.cell? ⟨w.heap.size, 4, none⟩ = some (.slice Ag m.groups.length cg) := blk_cell HH.out 4
    by_cases hlt : j < m.groups.length
    · obtain ⟨b, o, ks, e1, hK, hcl, hmm⟩ := C_mid (Kd.C_below HM.out.g HB.out) zRf j hlt (by decide)
      have hs := groupsL_at m.next m.most m.schema m.groups j hlt
      rw [HX.out] at hs
      generalize m.groups.getD j zRf = x at *
      obtain ⟨A, c, B, d, rfl, h32, hc, hC, hd, hD⟩ := kRf_open hK
      rw [kRf_sz] at hmm hcl
      have HS := Aside0.mk hs
      have HCL := Aside0.mk hcl
      have HMM := Aside0.mk hmm
      have HC := Aside0.mk hC
      have H32 := Aside0.mk h32
      have HCC := Aside0.mk hc
      have HSZ := Aside0.mk (show ((rfCells x A c B d).toArray).size = 37 from by rw [List.size_toArray]; exact hcl)
      have HDL := Aside0.mk (hd_len x.hd A c h32)
      have HB36 := Aside0.mk (rf_36 x A c B d h32)
      cases e1
      clear hs hK hcl hmm hC h32 hc hD hd
      by_cases i0 : x.id < 0
      · go_wp2_with (first | (refine wpList_load_mid rfl 66 (.tmp 57) rfl b (o + j * 37) rfl (rfCells x A c B d) _ HMM.out Tryz.underlying66 rfl (by rw [HCL.out]; kernel_rfl) ?_) | (refine wpList_store_row rfl 66 (.tmp 5) (.tmp 58) rfl wr.heap.size ((rfCells x A c B d).toArray) rfl rfl 66 _ (heap_alloc_new wr _) (by rw [HSZ.out]; kernel_rfl) (by rw [HSZ.out]; rfl) (rf_all _ _ _ _ _) ?_; rw [World.setRow_alloc_new]; have hx := heap_alloc_new wr (.cells (rfCells x A c B d).toArray 66); have hbr : Below wr.heap.size wr (wr.alloc (.cells (rfCells x A c B d).toArray 66)) := below_alloc (Below.refl _ _) _; have HBW := Aside0.mk (below_call HB.out hbr); have HH2 := Aside0.mk ((hbr.block _ (blk_lt HH.out)).trans HH.out); have HC2 := Aside0.mk (Kd.C_below HC.out hbr); have HX2 := Aside0.mk hx; have HRD := Aside0.mk (range_of (pre := [.int .i64 x.id]) (cs := hdCells x.hd A c) (post := [.slice B x.dead.length d]) hx 1 rfl); clear hx hbr q4; generalize (wr.alloc (.cells (rfCells x A c B d).toArray 66)) = W2 at *; have p0 : W2.cell? ⟨wr.heap.size, 0, none⟩ = some (.int .i64 x.id) := (blk_cell HX2.out 0).trans rfl; have q1 : W2.cell? ⟨w.heap.size, 1, none⟩ = some (.int .i64 m.next) := blk_cell HH2.out 1; have q2 : W2.cell? ⟨w.heap.size, 2, none⟩ = some (.slice As m.schema.length cs) := blk_cell HH2.out 2; have q4 := trivial))
        go_ret
        exact ⟨by rw [HRG.out, if_neg (by rw [HS.out, if_neg (by omega)]; decide), HS.out, if_neg (by omega)]; rfl, HBW.out⟩
      by_cases i1 : x.id ≥ m.next
      · go_wp2_with (first | (refine wpList_load_mid rfl 66 (.tmp 57) rfl b (o + j * 37) rfl (rfCells x A c B d) _ HMM.out Tryz.underlying66 rfl (by rw [HCL.out]; kernel_rfl) ?_) | (refine wpList_store_row rfl 66 (.tmp 5) (.tmp 58) rfl wr.heap.size ((rfCells x A c B d).toArray) rfl rfl 66 _ (heap_alloc_new wr _) (by rw [HSZ.out]; kernel_rfl) (by rw [HSZ.out]; rfl) (rf_all _ _ _ _ _) ?_; rw [World.setRow_alloc_new]; have hx := heap_alloc_new wr (.cells (rfCells x A c B d).toArray 66); have hbr : Below wr.heap.size wr (wr.alloc (.cells (rfCells x A c B d).toArray 66)) := below_alloc (Below.refl _ _) _; have HBW := Aside0.mk (below_call HB.out hbr); have HH2 := Aside0.mk ((hbr.block _ (blk_lt HH.out)).trans HH.out); have HC2 := Aside0.mk (Kd.C_below HC.out hbr); have HX2 := Aside0.mk hx; have HRD := Aside0.mk (range_of (pre := [.int .i64 x.id]) (cs := hdCells x.hd A c) (post := [.slice B x.dead.length d]) hx 1 rfl); clear hx hbr q4; generalize (wr.alloc (.cells (rfCells x A c B d).toArray 66)) = W2 at *; have p0 : W2.cell? ⟨wr.heap.size, 0, none⟩ = some (.int .i64 x.id) := (blk_cell HX2.out 0).trans rfl; have q1 : W2.cell? ⟨w.heap.size, 1, none⟩ = some (.int .i64 m.next) := blk_cell HH2.out 1; have q2 : W2.cell? ⟨w.heap.size, 2, none⟩ = some (.slice As m.schema.length cs) := blk_cell HH2.out 2; have q4 := trivial))
        go_ret
        exact ⟨by rw [HRG.out, if_neg (by rw [HS.out, if_neg (by omega)]; decide), HS.out, if_neg (by omega)]; rfl, HBW.out⟩
      have hE := HS.out
      rw [if_pos (by omega)] at hE
      go_wp2_with (first | (refine wpList_load_mid rfl 66 (.tmp 57) rfl b (o + j * 37) rfl (rfCells x A c B d) _ HMM.out Tryz.underlying66 rfl (by rw [HCL.out]; kernel_rfl) ?_) | (refine wpList_store_row rfl 66 (.tmp 5) (.tmp 58) rfl wr.heap.size ((rfCells x A c B d).toArray) rfl rfl 66 _ (heap_alloc_new wr _) (by rw [HSZ.out]; kernel_rfl) (by rw [HSZ.out]; rfl) (rf_all _ _ _ _ _) ?_; rw [World.setRow_alloc_new]; have hx := heap_alloc_new wr (.cells (rfCells x A c B d).toArray 66); have hbr : Below wr.heap.size wr (wr.alloc (.cells (rfCells x A c B d).toArray 66)) := below_alloc (Below.refl _ _) _; have HBW := Aside0.mk (below_call HB.out hbr); have HH2 := Aside0.mk ((hbr.block _ (blk_lt HH.out)).trans HH.out); have HC2 := Aside0.mk (Kd.C_below HC.out hbr); have HX2 := Aside0.mk hx; have HRD := Aside0.mk (range_of (pre := [.int .i64 x.id]) (cs := hdCells x.hd A c) (post := [.slice B x.dead.length d]) hx 1 rfl); clear hx hbr q4; generalize (wr.alloc (.cells (rfCells x A c B d).toArray 66)) = W2 at *; have p0 : W2.cell? ⟨wr.heap.size, 0, none⟩ = some (.int .i64 x.id) := (blk_cell HX2.out 0).trans rfl; have q1 : W2.cell? ⟨w.heap.size, 1, none⟩ = some (.int .i64 m.next) := blk_cell HH2.out 1; have q2 : W2.cell? ⟨w.heap.size, 2, none⟩ = some (.slice As m.schema.length cs) := blk_cell HH2.out 2; have q4 := trivial) | (refine wpList_load_mid rfl 64 (.tmp 69) rfl wr.heap.size 1 rfl (hdCells x.hd A c) _ HRD.out Tryz.underlying64 rfl (by rw [HDL.out]; kernel_rfl) ?_) | fail)
      refine (refSound_calls x.hd A c As cs m.schema W2 H32.out HCC.out HC2.out (Kd.C_below HM.out.s HBW.out) HM.out.hs).mono ?_
      rintro e w4 ⟨rfl, hb4⟩
      have HB4 := Aside0.mk (below_call HBW.out hb4)
      have HH4 := Aside0.mk ((hb4.block _ (blk_lt HH2.out)).trans HH2.out)
      have hx4 := (hb4.block _ (blk_lt HX2.out)).trans HX2.out
      clear hb4 p0 q1 q2
      have p1 : w4.cell? ⟨wr.heap.size, 1, none⟩ = some (.int .i64 x.hd.rows) := (blk_cell hx4 1).trans rfl
      have p36 : w4.cell? ⟨wr.heap.size, 36, none⟩ = some (.slice B x.dead.length d) := (blk_cell hx4 36).trans HB36.out
      have q3 : w4.cell? ⟨w.heap.size, 3, none⟩ = some (.int .i64 m.most) := blk_cell HH4.out 3
      clear hx4 q4
      cases hso : soundP x.hd m.schema with
      | false =>
        rw [hso, if_neg (by simp)] at hE
        have HE := Aside0.mk hE
        clear hE
        go_wp2
        go_ret
        exact ⟨by rw [HRG.out, if_neg (by rw [HE.out]; decide), HE.out]; rfl, HB4.out⟩
      | true =>
        rw [hso] at hE
        by_cases hro : x.hd.rows > m.most
        · rw [if_neg (by omega)] at hE
          have HE := Aside0.mk hE
          clear hE
          go_wp2
          go_ret
          exact ⟨by rw [HRG.out, if_neg (by rw [HE.out]; decide), HE.out]; rfl, HB4.out⟩
        · by_cases hde : (x.dead.length : Int) > 65536
          · rw [if_neg (by omega)] at hE
            have HE := Aside0.mk hE
            clear hE
            go_wp2
            go_ret
            exact ⟨by rw [HRG.out, if_neg (by rw [HE.out]; decide), HE.out]; rfl, HB4.out⟩
          · rw [if_pos ⟨rfl, by omega, by omega⟩] at hE
            have HE := Aside0.mk hE
            clear hE
            go_wp2
            go_roundw
            case rel => exact ⟨j + 1, by omega, by go_num, ⟨HE.out.symm⟩, HB4, HH4⟩
            case measure => simp [intOf]; omega
    · obtain rfl : j = m.groups.length := by omega
      have hg0 : groupsL m.next m.most m.schema m.groups = 0 := by rw [← HX.out, List.drop_eq_nil_of_le (Nat.le_refl _)]; rfl
      have hrl := HRG.out
      rw [if_pos hg0] at hrl
      have HRL := Aside0.mk hrl
      clear hrl hg0 HX
      have HBa := HB
      have HHa := HH
      go_wp2_with fail
      clear q4
      go_loopw [6] (fun v6 w' => ∃ j : Nat, j ≤ m.loose.length ∧ v6 = .int .i64 j ∧ Aside0 (looseL m.schema (m.loose.drop j) = looseL m.schema m.loose) ∧ Aside0 (Below w.heap.size w w') ∧ Aside0 (w'.heap[w.heap.size]? = some (.cells #[.int .i64 m.gen, .int .i64 m.next, .slice As m.schema.length cs, .int .i64 m.most, .slice Ag m.groups.length cg, .slice Al m.loose.length cl, .slice Ae m.entries.length ce] 27 (0, 0)))) (fun i _ => m.loose.length - (intOf i).toNat)
      case atStart => exact ⟨0, Nat.zero_le _, rfl, ⟨rfl⟩, HBa, HHa⟩
      case round =>
        clear HB HH HBa HHa
        obtain ⟨j, hj, rfl, HX, HB, HH⟩ := hrel
        have q2 : wr.cell? ⟨w.heap.size, 2, none⟩ = some (.slice As m.schema.length cs) := blk_cell HH.out 2
        have q5 : wr.cell? ⟨w.heap.size, 5, none⟩ = some (.slice Al m.loose.length cl) := blk_cell HH.out 5
        by_cases hlt : j < m.loose.length
        · obtain ⟨ad, A0, c0, e1, x0, hc0, hC⟩ := at_L6 (Kd.C_below HM.out.l HB.out) (j : Int) (by omega) (by omega)
          have hs := looseL_at m.schema m.loose j hlt
          rw [HX.out] at hs
          generalize rd_L6 m.loose (j : Int) = r at *
          rw [show ((j : Int)).toNat = j from by omega] at x0
          have HS := Aside0.mk hs
          have HCD : Aside0 (Kd.C k68 wr.drew A0 r.length r) := Aside0.mk hC
          cases e1
          clear hs hC
          have HBD := Aside0.mk (below_drew HB.out)
          have HHD : Aside0 (wr.drew.heap[w.heap.size]? = some (.cells #[.int .i64 m.gen, .int .i64 m.next, .slice As m.schema.length cs, .int .i64 m.most, .slice Ag m.groups.length cg, .slice (some ad) m.loose.length cl, .slice Ae m.entries.length ce] 27 (0, 0))) := HH
          have q2 : wr.drew.cell? ⟨w.heap.size, 2, none⟩ = some (.slice As m.schema.length cs) := q2
          have q5 : wr.drew.cell? ⟨w.heap.size, 5, none⟩ = some (.slice (some ad) m.loose.length cl) := q5
          have x0 : wr.drew.cell? (ad.add j) = some (.slice A0 r.length c0) := x0
          go_wp2_with fail
          refine start_ (n := 9) (S := fun w' => w'.cell? ⟨w.heap.size, 2, none⟩ = some (.slice As m.schema.length cs) ∧ w'.cell? ⟨w.heap.size, 5, none⟩ = some (.slice (some ad) m.loose.length cl) ∧ w'.cell? (ad.add j) = some (.slice A0 r.length c0)) (ds := []) #[false, false, false, false, false, false, false, false, false] (by kernel_rfl) rfl rfl ⟨q2, q5, x0⟩ (fun hHeld => ?_)
          generalize wr.drew = W2 at *
          refine pure_ (i := 0) (N := some 96) (v := ?_) (a' := ?_) #[true, false, false, false, false, false, false, false, false] rfl rfl (by kernel_rfl) (fun _ _ _ h => h) (Or.inl ⟨by rfl, ?_⟩) ?_ ?_
          rotate_left
          · intro w'
            go_simp
            with_reducible rfl
          rotate_left
          · simp only [Act.put, List.setIfInBounds_toArray, List.set_cons_zero, List.set_cons_succ, i64_w, i32_w]
            rfl
          refine pure_ (i := 2) (N := some 98) (v := ?_) (a' := ?_) #[true, false, true, false, false, false, false, false, false] rfl rfl (by kernel_rfl) (fun _ _ _ h => h) (Or.inl ⟨by rfl, ?_⟩) ?_ ?_
          rotate_left
          · intro w'
            go_simp
            with_reducible rfl
          rotate_left
          · simp only [Act.put, List.setIfInBounds_toArray, List.set_cons_zero, List.set_cons_succ, i64_w, i32_w]
            rfl
          refine pure_ (i := 4) (N := some 100) (v := ?_) (a' := ?_) #[true, false, true, false, true, false, false, false, false] rfl rfl (by kernel_rfl) (fun _ _ _ h => h) (Or.inl ⟨by rfl, ?_⟩) ?_ ?_
          rotate_left
          · intro w'
            go_simp
            with_reducible rfl
          rotate_left
          · simp only [Act.put, List.setIfInBounds_toArray, List.set_cons_zero, List.set_cons_succ, i64_w, i32_w]
            rfl
          refine take_ (i := 1) (N := some 97) (v := ?_) (a' := ?_) #[true, true, true, false, true, false, false, false, false] rfl rfl (by kernel_rfl) (fun _ _ _ h => h) (Or.inl ⟨by rfl, ?_⟩) hHeld ?_ ?_
          rotate_left
          · rintro w' ⟨s0, s1, s2⟩
            go_simp
            with_reducible rfl
          rotate_left
          · simp only [Act.put, List.setIfInBounds_toArray, List.set_cons_zero, List.set_cons_succ, i64_w, i32_w]
            rfl
          refine take_ (i := 3) (N := some 99) (v := ?_) (a' := ?_) #[true, true, true, true, true, false, false, false, false] rfl rfl (by kernel_rfl) (fun _ _ _ h => h) (Or.inl ⟨by rfl, ?_⟩) hHeld ?_ ?_
          rotate_left
          · rintro w' ⟨s0, s1, s2⟩
            go_simp
            with_reducible rfl
          rotate_left
          · simp only [Act.put, List.setIfInBounds_toArray, List.set_cons_zero, List.set_cons_succ, i64_w, i32_w]
            rfl
          refine pure_ (i := 5) (N := some 101) (v := ?_) (a' := ?_) #[true, true, true, true, true, true, false, false, false] rfl rfl (by kernel_rfl) (fun _ _ _ h => h) (Or.inl ⟨by rfl, ?_⟩) ?_ ?_
          rotate_left
          · intro w'
            go_simp
            with_reducible rfl
          rotate_left
          · simp only [Act.put, List.setIfInBounds_toArray, List.set_cons_zero, List.set_cons_succ, i64_w, i32_w]
            rfl
          refine take_ (i := 6) (N := some 102) (v := ?_) (a' := ?_) #[true, true, true, true, true, true, true, false, false] rfl rfl (by kernel_rfl) (fun _ _ _ h => h) (Or.inl ⟨by rfl, ?_⟩) hHeld ?_ ?_
          rotate_left
          · rintro w' ⟨s0, s1, s2⟩
            go_simp
            with_reducible rfl
          rotate_left
          · simp only [Act.put, List.setIfInBounds_toArray, List.set_cons_zero, List.set_cons_succ, i64_w, i32_w]
            rfl
          refine one_ (i := 7) (N := some 103) #[true, true, true, true, true, true, true, true, false] rfl rfl (by kernel_rfl) (by decide) (fun K hK => ?_)
          refine goes_ Tryz.func51 (by kernel_rfl) rfl #[.slice As m.schema.length cs, .slice A0 r.length c0] (by rfl) rfl rfl (by simp only [List.map_toArray, List.map_cons, List.map_nil]; rfl) ?_
          with_reducible refine (refRow_calls As cs m.schema A0 c0 r W2 (Kd.C_below HM.out.s HBD.out) HM.out.hs HCD.out hc0).mono ?_
          rintro e w4 ⟨rfl, hb4⟩
          refine ⟨_, rfl, ?_⟩
          have HB4 := Aside0.mk hb4
          clear hb4
          refine hK.out _ _ ⟨pw_cell_below HB4.out q2, pw_cell_below HB4.out q5, pw_cell_below HB4.out x0⟩ (fun hHeld => ?_)
          clear hK K
          refine norm_ (a' := ?_) ?_ ?_
          rotate_left
          · show Act.put _ (some 103) _ = _
            simp only [Act.put, List.setIfInBounds_toArray, List.set_cons_zero, List.set_cons_succ, i64_w, i32_w]
            rfl
          refine pure_ (i := 8) (N := some 7) (v := ?_) (a' := ?_) #[true, true, true, true, true, true, true, true, true] rfl rfl (by kernel_rfl) (fun _ _ _ h => h) (Or.inl ⟨by rfl, ?_⟩) ?_ ?_
          rotate_left
          · intro w'
            go_simp
            with_reducible rfl
          rotate_left
          · simp only [Act.put, List.setIfInBounds_toArray, List.set_cons_zero, List.set_cons_succ, i64_w, i32_w]
            rfl
          refine done_ (by kernel_rfl) ?_
          have HB5 := Aside0.mk (below_call HBD.out HB4.out)
          have HH5 := Aside0.mk ((HB4.out.block _ (blk_lt HHD.out)).trans HHD.out)
          clear q2 q5 x0
          obtain ⟨e3, he3⟩ : ∃ e3 : Int, e3 = rowP m.schema r := ⟨_, rfl⟩
          rw [← he3]
          have hE := HS.out
          rw [← he3] at hE
          clear he3
          by_cases z3 : ¬ e3 = 0
          · have z3' : (e3 != 0) = true := by simpa using z3
            rw [if_neg z3] at hE
            have HE := Aside0.mk hE
            have hr5 := HRL.out
            rw [HE.out, if_neg z3] at hr5
            have HR5 := Aside0.mk hr5
            clear hE hr5
            go_wp2
            go_ret
            exact ⟨by rw [HR5.out]; rfl, HB5.out⟩
          · have z3 := Classical.not_not.1 z3
            subst z3
            rw [if_pos rfl] at hE
            have HE := Aside0.mk hE
            clear hE
            go_wp2
            go_roundw
            case rel => exact ⟨j + 1, by omega, by go_num, ⟨HE.out.symm⟩, HB5, HH5⟩
            case measure => simp [intOf]; omega
        · obtain rfl : j = m.loose.length := by omega
          have hl0 : looseL m.schema m.loose = 0 := by rw [← HX.out, List.drop_eq_nil_of_le (Nat.le_refl _)]; rfl
          have hre := HRL.out
          rw [if_pos hl0] at hre
          have q3 : wr.cell? ⟨w.heap.size, 3, none⟩ = some (.int .i64 m.most) := blk_cell HH.out 3
          have q6 : wr.cell? ⟨w.heap.size, 6, none⟩ = some (.slice Ae m.entries.length ce) := blk_cell HH.out 6
          by_cases hmo : (m.loose.length : Int) ≥ m.most
          · rw [if_pos hmo] at hre
            have HRE := Aside0.mk hre
            clear hre hl0
            go_wp2
            go_ret
            exact ⟨by rw [HRE.out]; rfl, HB.out⟩
          rw [if_neg hmo] at hre
          by_cases hen : (m.entries.length : Int) = 0
          · rw [if_pos hen] at hre
            have HRE := Aside0.mk hre
            have hen' : ((m.entries.length : Int) == 0) = true := by simpa using hen
            clear hre hl0 hen
            go_wp2
            go_ret
            exact ⟨by rw [HRE.out]; rfl, HB.out⟩
          rw [if_neg hen] at hre
          have HRE := Aside0.mk hre
          have hen' : ((m.entries.length : Int) == 0) = false := by simpa using hen
          have HBa := HB
          have HHa := HH
          clear hre hl0 hen HX
          go_wp2_with fail
          clear q2 q3 q5 q6
          go_loopw [8] (fun v8 w' => ∃ j : Nat, j ≤ m.entries.length ∧ v8 = .int .i64 j ∧ Aside0 (entriesL (m.entries.drop j) = entriesL m.entries) ∧ Aside0 (Below w.heap.size w w') ∧ Aside0 (w'.heap[w.heap.size]? = some (.cells #[.int .i64 m.gen, .int .i64 m.next, .slice As m.schema.length cs, .int .i64 m.most, .slice Ag m.groups.length cg, .slice Al m.loose.length cl, .slice Ae m.entries.length ce] 27 (0, 0)))) (fun i _ => m.entries.length - (intOf i).toNat)
          case atStart => exact ⟨0, Nat.zero_le _, rfl, ⟨rfl⟩, HBa, HHa⟩
          case round =>
            clear HB HH HBa HHa
            obtain ⟨j, hj, rfl, HX, HB, HH⟩ := hrel
            have q6 : wr.cell? ⟨w.heap.size, 6, none⟩ = some (.slice Ae m.entries.length ce) := blk_cell HH.out 6
            by_cases hlt : j < m.entries.length
            · obtain ⟨b, o, ks, e1, hK, hcl, hmm⟩ := C_mid (Kd.C_below HM.out.e HB.out) zEn j hlt (by decide)
              have hs := entriesL_at m.entries j hlt
              rw [HX.out] at hs
              generalize m.entries.getD j zEn = x at *
              obtain ⟨rfl, hs1, hr1⟩ := kEn_open hK
              rw [kEn_sz] at hmm hcl
              have g32 : wr.cell? ⟨b, o + j * 65 + 32, none⟩ = some (.int .i64 x.g) := hmm 32 _ (by unfold enCells hashCells; rw [List.getElem?_append_right (by rw [List.length_map]; omega), List.length_map, hs1]; rfl)
              cases e1
              clear hK hcl hmm hs1 hr1
              cases hrb : rightB x.g with
              | false =>
                rw [hrb, if_neg (by decide)] at hs
                have HS := Aside0.mk hs
                clear hs
                have hno : x.g < 0 ∨ x.g > 1048576 := by
                  unfold rightB at hrb
                  simp only [Bool.and_eq_false_iff, decide_eq_false_iff_not] at hrb
                  omega
                clear hrb
                rcases hno with hno | hno
                · go_wp2
                  go_ret
                  exact ⟨by rw [HRE.out, ← HS.out]; rfl, HB.out⟩
                · by_cases h00 : x.g < 0
                  · omega
                  go_wp2
                  go_ret
                  exact ⟨by rw [HRE.out, ← HS.out]; rfl, HB.out⟩
              | true =>
                rw [hrb, if_pos rfl] at hs
                have HS := Aside0.mk hs
                clear hs
                unfold rightB at hrb
                simp only [Bool.and_eq_true, decide_eq_true_eq] at hrb
                obtain ⟨hn0, hn1⟩ := hrb
                go_wp2
                go_roundw
                case rel => exact ⟨j + 1, by omega, by go_num, ⟨HS.out.symm⟩, HB, HH⟩
                case measure => simp [intOf]; omega
            · obtain rfl : j = m.entries.length := by omega
              go_wp2
              go_ret
              exact ⟨by rw [HRE.out, ← HX.out, List.drop_eq_nil_of_le (Nat.le_refl _)]; rfl, HB.out⟩
end Go.Proofs.YtjmhiklmlgbifaaGreatDoor.PMan
end
section
namespace Go.Proofs.YtjmhiklmlgbifaaGreatDoor.PMan
open Go.RowKit Go.Proofs.YtjmhiklmlgbifaaGreatDoorW.PrintWords Go.Proofs.YtjmhiklmlgbifaaGreatDoorW.PrintLast Go.Proofs.YtjmhiklmlgbifaaGreatDoorW.PrintMore
set_option linter.unusedVariables false
set_option linter.unusedSimpArgs false
/-- A row of bytes that the call owns (since the world w0). -/
structure App (w0 w : World) (u : Value) (l : List Int) : Prop where
  bel : Below w0.heap.size w0 w
  own : Kd.R (Kd.int .u8) 5 w w0.heap.size (fun _ => True) u l
theorem App.nil (w : World) : App w w (.slice none 0 0) [] := ⟨Below.refl _ _, Kd.R_nil _ _ _ _ _⟩
theorem App.tight {w0 w : World} {u : Value} {l : List Int} (h : App w0 w u l) : Kd.R (Kd.int .u8) 5 w w0.heap.size (fun k => u.ownBlock = some k) u l := by
  obtain ⟨_, inner, ho, hr⟩ := h.own
  exact ⟨fun k hk => hk, inner, ho, hr⟩
theorem App.below {w0 w w1 : World} {u : Value} {l : List Int} (h : App w0 w u l) (hb : Below w.heap.size w w1) : App w0 w1 u l := ⟨h.bel.trans (hb.mono h.bel.size), Kd.R_below h.own hb⟩
theorem App.slice {w0 w : World} {u : Value} {l : List Int} (h : App w0 w u l) : ∃ A c, u = .slice A l.length c := Kd.R_slice h.own
/-- What stays while a row of bytes grows: every block but its own. -/
abbrev Stay (w w' : World) (u : Value) : Prop := Kept w w' (fun k => u.ownBlock = some k)
theorem Stay.block {w0 w w' : World} {u : Value} {l : List Int} (h : App w0 w u l) (hs : Stay w w' u) {g : Nat} {c : Array Value} {t : TypeId} (hg : w.heap[g]? = some (.cells c t (0, 0))) (ht : t ≠ 5) : w'.heap[g]? = some (.cells c t (0, 0)) := by
  rw [hs.2 g (blk_lt hg) ?_, hg]
  intro hk
  obtain ⟨_, inner, ho, _⟩ := h.own
  obtain ⟨cells, hc⟩ := own_typed ho g hk
  rw [hg] at hc
  injection hc with hc
  injection hc with h1 h2 h3
  exact ht h2
theorem Stay.old {w w' w1 : World} {u : Value} (hs : Stay w w' u) (hb : Below w'.heap.size w' w1) : Stay w w1 u := Kept.below hs hb
/-- .. and where the grown row lies. -/
structure Grew (w w' : World) (u v : Value) : Prop where
  kept : Stay w w' u
  own : ∀ k, v.ownBlock = some k → u.ownBlock = some k ∨ w.heap.size ≤ k
theorem Grew.refl (w : World) (u : Value) : Grew w w u u := ⟨Kept.refl _ _, fun _ h => .inl h⟩
theorem Grew.trans {w w1 w2 : World} {u v1 v2 : Value} (h1 : Grew w w1 u v1) (h2 : Grew w1 w2 v1 v2) : Grew w w2 u v2 :=
  ⟨Kept.then_ h1.kept h2.kept (fun k hk => h1.own k hk), fun k hk => (h2.own k hk).elim (fun h => h1.own k h) (fun h => .inr (Nat.le_trans h1.kept.1 h))⟩
theorem Grew.below {w w1 w2 : World} {u v1 : Value} (h1 : Grew w w1 u v1) (hb : Below w1.heap.size w1 w2) : Grew w w2 u v1 := ⟨Kept.below h1.kept hb, h1.own⟩
theorem Grew.after {w w1 w2 : World} {u v1 : Value} (hb : Below w.heap.size w w1) (h1 : Grew w1 w2 u v1) : Grew w w2 u v1 :=
  ⟨⟨Nat.le_trans hb.size h1.kept.1, fun i hi hn => (h1.kept.2 i (Nat.lt_of_lt_of_le hi hb.size) hn).trans (hb.block i hi)⟩, fun k hk => (h1.own k hk).imp id (Nat.le_trans hb.size)⟩
theorem app_var (w0 w : World) (u : Value) (l : List Int) (x : Int) (ha : App w0 w u l) (h0 : 0 ≤ x) (h1 : x < 18446744073709551616) (hl : l.length < 100000000000000) :
    Calls Tryz.prog 29 #[u, .int .u64 x] w fun e w' => ∃ v, e = .returned v ∧ App w0 w' v (l ++ varP x) ∧ Grew w w' u v := by
  refine (num_PutVar.calls 10 (fun k => u.ownBlock = some k) u l x _ w0 w ha.bel ha.tight (putVar_p l x h0 h1 hl)).mono ?_
  rintro e w' ⟨v, rfl, ho, hb, hk⟩
  exact ⟨v, rfl, ⟨hb, Kd.R_mono ho (fun _ _ => trivial)⟩, hk, fun k hkk => ho.1 k hkk⟩
theorem app_rows {ops : Array Oper} {rest : List Oper} {o : Oper} {a : Act} {w0 W : World} {Q : Exit → Act → World → Prop} (hgd : o.guard = none) (s x : Operand)
    (ho : o.op = .call { callee := .builtin .append, args := #[s, x], argTypes := #[30, 30] }) (u : Value) (l ys : List Int) (A : Option Addr) (m c : Nat) (hs : a.eval s = u) (hx : a.eval x = .slice A m c)
    (ha : App w0 W u l) (hr : Kd.C (Kd.int .u8) W A m ys) (hl : l.length + m ≤ 100000000000000)
    (h : ∀ v1 w1, App w0 w1 v1 (l ++ ys) → Grew W w1 u v1 → wpList Tryz.prog ops Q rest (a.put o.dst v1) w1) : wpList Tryz.prog ops Q (o :: rest) a W := by
  refine Kd.R_append_rows (Kd.int .u8) (w0 := w0) w0.heap.size hgd s x 30 5 (.int .u8 0) 1 ho Tryz.underlying30 info5 rfl (by decide) (by omega) u l ys A m c (fun _ => True) (fun _ => False) hs hx ha.own hr (fun _ _ h => h) (fun _ h => h.elim) (fun _ _ => trivial) ha.bel ha.bel.size (by omega) ?_
  intro v1 w1 h1 hb hg hat
  exact h v1 w1 ⟨hb, h1⟩ ⟨Kept.of_grown hg (Kept.refl W _) (fun k hk => .inl hk), fun k hk => by
    rcases hat with h | ⟨b, hb1, hb2⟩
    · exact .inl (h ▸ hk)
    · rw [hb1] at hk
      exact .inr (Option.some.inj hk ▸ hb2)⟩
/-- Two bytes rows' facts: one byte that was made. -/
theorem one_C {w : World} {b : Nat} {x : Int} {t : TypeId} (h : w.heap[b]? = some (.cells #[.int .u8 x] t (0, 0))) : Kd.C (Kd.int .u8) w (some ⟨b, 0, none⟩) 1 [x] := by
  refine ⟨rfl, by decide, fun _ => ⟨⟨b, 0, none⟩, rfl, fun j p hj => ?_⟩⟩
  match j, hj with
  | 0, hj =>
    obtain rfl : x = p := by simpa using hj
    refine ⟨[.int .u8 x], rfl, rfl, fun i u hu => ?_⟩
    match i, hu with
    | 0, hu =>
      obtain rfl : Value.int .u8 x = u := by simpa using hu
      exact blk_cell h 0
    | i + 1, hu => simp at hu
  | j + 1, hj => simp at hj
theorem Stay.C {w w' : World} {u : Value} (hs : Stay w w' u) {b n : Nat} {o : Nat} {ys : List Int} (hn : u.ownBlock ≠ some b) (hb : b < w.heap.size) (h : Kd.C (Kd.int .u8) w (some ⟨b, o, none⟩) n ys) : Kd.C (Kd.int .u8) w' (some ⟨b, o, none⟩) n ys := by
  refine ⟨h.1, h.2.1, fun hn0 => ?_⟩
  obtain ⟨ad, e, hc⟩ := h.2.2 hn0
  refine ⟨ad, e, fun j p hj => ?_⟩
  obtain ⟨c, h1, h2, h3⟩ := hc j p hj
  refine ⟨c, h1, h2, fun i u hu => ?_⟩
  obtain rfl := Option.some.inj e
  rw [← h3 i u hu, Addr.add_mid]
  unfold World.cell?
  rw [hs.2 b hb hn]
def blobP (p : List Int) : List Int := varP p.length ++ p
set_option maxHeartbeats 1600000 in
set_option maxRecDepth 100000 in
theorem app_blob (w0 w : World) (u : Value) (l : List Int) (A : Option Addr) (m c : Nat) (p : List Int) (hm : m = p.length) (ha : App w0 w u l) (hp : ∀ W, Stay w W u → Kd.C (Kd.int .u8) W A p.length p) (hl : l.length < 1000000000000) (hpl : p.length < 1000000000000) :
    Calls Tryz.prog 32 #[u, .slice A m c] w fun e w' => ∃ v, e = .returned v ∧ App w0 w' v (l ++ blobP p) ∧ Grew w w' u v := by
  subst hm
  have HA := Aside0.mk ha
  have HP := Aside0.mk hp
  have hu : IntKind.u64.wrap (p.length : Int) = (p.length : Int) := u64_small _ (by omega) (by omega)
  have hvl := varP_len (p.length : Int)
  clear ha hp
  go_enter Tryz.func32, Tryz.ntmps32
  go_wp2_with fail
  refine (app_var w0 w u l p.length HA.out (by omega) (by omega) (by omega)).mono ?_
  rintro e w1 ⟨v1, rfl, ha1, hk1⟩
  have HA1 := Aside0.mk ha1
  have HK1 := Aside0.mk hk1
  have HP1 := Aside0.mk (HP.out w1 hk1.kept)
  clear ha1 hk1
  obtain ⟨y, hy⟩ : ∃ y, y = l ++ varP p.length := ⟨_, rfl⟩
  have hyl : y.length ≤ l.length + 10 := by rw [hy, List.length_append]; omega
  have HY := Aside0.mk hy
  rw [← hy] at HA1
  clear hy
  go_wp2_with ((with_reducible refine gate_builtin (b := .append) (xs := #[.tmp 9, .tmp 10]) rfl ?_); at_builtin; refine app_rows rfl (.tmp 9) (.tmp 10) rfl v1 y p A p.length c rfl rfl HA1.out HP1.out (by omega) ?_; intro v2 w2 ha2 hk2; have HA2 := Aside0.mk ha2; have HK2 := Aside0.mk hk2; clear ha2 hk2)
  go_ret
  refine ⟨_, rfl, ?_, ?_⟩
  · unfold blobP
    rw [← List.append_assoc, ← HY.out]
    exact HA2.out
  · exact HK1.out.trans HK2.out
/-- A whole number that bears its sign, turned. -/
def zigP (n : Int) : Int := if n ≥ 0 then 2 * n else -2 * n - 1
set_option maxHeartbeats 1600000 in
set_option maxRecDepth 100000 in
theorem zig_calls (n : Int) (h0 : -9223372036854775808 ≤ n) (h1 : n ≤ 9223372036854775807) (w : World) : Calls Tryz.prog 109 #[.int .i64 n] w fun e w' => e = .returned (.int .u64 (zigP n)) ∧ w' = w := by
  go_enter Tryz.func109, Tryz.ntmps109
  go_wp2
  go_ret
  refine ⟨?_, rfl⟩
  have e : bits .xor .u64 (IntKind.u64.wrap (IntKind.u64.wrap n * 2)) (IntKind.u64.wrap (n / 9223372036854775808)) = zigP n := by
    unfold zigP
    by_cases h : n ≥ 0
    · have e1 : IntKind.u64.wrap (IntKind.u64.wrap n * 2) = (((2 * n).toNat : Nat) : Int) := by
        rw [IntKind.wrap_u64, IntKind.wrap_u64]
        omega
      have e2 : IntKind.u64.wrap (n / 9223372036854775808) = ((0 : Nat) : Int) := by
        rw [show n / 9223372036854775808 = 0 from by omega]
        rfl
      rw [e1, e2, bits_xor_u64_nat _ _ (by omega) (by decide), if_pos h, Nat.xor_zero]
      omega
    · have e1 : IntKind.u64.wrap (IntKind.u64.wrap n * 2) = (((2 * n + 18446744073709551616).toNat : Nat) : Int) := by
        rw [IntKind.wrap_u64, IntKind.wrap_u64]
        omega
      have e2 : IntKind.u64.wrap (n / 9223372036854775808) = ((2 ^ 64 - 1 : Nat) : Int) := by
        rw [show n / 9223372036854775808 = -1 from by omega]
        decide
      rw [e1, e2, bits_xor_u64_nat _ _ (by omega) (by decide), Nat.xor_comm, Lib.xor_ones64 _ (by omega), if_neg h]
      omega
  rw [← e]
  rfl
theorem zigP_range (n : Int) (h0 : -9223372036854775808 ≤ n) (h1 : n ≤ 9223372036854775807) : 0 ≤ zigP n ∧ zigP n < 18446744073709551616 := by
  unfold zigP
  split <;> omega
theorem below_bytes (w : World) (s : ByteArray) : Below w.heap.size w (Lib.bytesWorld w 5 s) := by
  refine ⟨rfl, rfl, rfl, by rw [Lib.bytesWorld_size]; omega, fun j hj => Lib.bytesWorld_at_old w 5 s j hj⟩
/-- A value's form. -/
def txtP (s : ByteArray) : List Int := s.data.toList.map (fun b => (b.toNat : Int))
theorem txtP_length (s : ByteArray) : (txtP s).length = s.size := by
  unfold txtP
  rw [List.length_map]
  exact Array.length_toList
theorem txt_C (w : World) (s : ByteArray) (hs : s.size < 1000000000) : Kd.C (Kd.int .u8) (Lib.bytesWorld w 5 s) (some ⟨w.heap.size, 0, none⟩) (txtP s).length (txtP s) := by
  have hl := txtP_length s
  refine ⟨rfl, by omega, fun _ => ⟨_, rfl, fun j p hj => ⟨[.int .u8 p], rfl, rfl, fun i u hu => ?_⟩⟩⟩
  match i, hu with
  | i + 1, hu => simp at hu
  | 0, hu =>
    obtain rfl : Value.int .u8 p = u := by simpa using hu
    have hj0 := (List.getElem?_eq_some_iff.1 hj).1
    have hj1 : j < s.size := by omega
    rw [Addr.add_mid, show 0 + (j * (Kd.int IntKind.u8).sz + 0) = j from by show 0 + (j * 1 + 0) = j; omega, Lib.bytesWorld_cell w 5 s j hj1]
    unfold txtP at hj
    rw [List.getElem?_map, Option.map_eq_some_iff] at hj
    obtain ⟨b, hb, rfl⟩ := hj
    rw [List.getD_eq_getElem?_getD, hb]
    rfl
def valP (v : S68) : List Int := (v.f0 % 256) :: (if v.f0 = 1 then varP (zigP v.f1) else if v.f0 = 2 then blobP (txtP v.f2) else [])
set_option maxHeartbeats 3200000 in
set_option maxRecDepth 100000 in
theorem app_val (w0 w : World) (u : Value) (l : List Int) (v : S68) (ha : App w0 w u l) (hl : l.length < 100000000000) (hn : -9223372036854775808 ≤ v.f1 ∧ v.f1 ≤ 9223372036854775807) (hs : v.f2.size < 1000000000) :
    Calls Tryz.prog 69 #[u, .agg #[.int .i64 v.f0, .int .i64 v.f1, .string v.f2]] w fun e w' => ∃ x, e = .returned x ∧ App w0 w' x (l ++ valP v) ∧ Grew w w' u x := by
  have hb0 : Below w.heap.size w (w.alloc (.cells #[.int .i64 v.f0, .int .i64 v.f1, .string v.f2] 68)) := below_alloc (Below.refl _ _) _
  have hx0 := heap_alloc_new w (.cells #[.int .i64 v.f0, .int .i64 v.f1, .string v.f2] 68)
  have HA := Aside0.mk (ha.below hb0)
  have HG := Aside0.mk (Grew.below (Grew.refl w u) hb0)
  have HX := Aside0.mk hx0
  have hne : u.ownBlock ≠ some w.heap.size := fun hk => by
    obtain ⟨_, inner, ho, _⟩ := ha.own
    obtain ⟨cells, hc⟩ := own_typed ho _ hk
    exact Nat.lt_irrefl _ (blk_lt hc)
  have hb1 := below_alloc (Below.refl (w.alloc (.cells #[.int .i64 v.f0, .int .i64 v.f1, .string v.f2] 68)).heap.size (w.alloc (.cells #[.int .i64 v.f0, .int .i64 v.f1, .string v.f2] 68))) (.cells #[.int .u8 (v.f0 % 256)] 5)
  have HA1 := Aside0.mk (HA.out.below hb1)
  have HG1 := Aside0.mk (HG.out.below hb1)
  have HX1 := Aside0.mk ((hb1.block _ (blk_lt HX.out)).trans HX.out)
  have ho1 := one_C (heap_alloc_new (w.alloc (.cells #[.int .i64 v.f0, .int .i64 v.f1, .string v.f2] 68)) (.cells #[.int .u8 (v.f0 % 256)] 5))
  rw [show (w.alloc (.cells #[.int .i64 v.f0, .int .i64 v.f1, .string v.f2] 68)).heap.size = w.heap.size + 1 from by simp] at ho1
  have HO1 := Aside0.mk ho1
  have HLL := Aside0.mk hl
  clear ha hx0 hb0 hb1 ho1 HA HG HX
  obtain ⟨y, hy⟩ : ∃ y, y = l ++ [v.f0 % 256] := ⟨_, rfl⟩
  have hyl : y.length = l.length + 1 := by rw [hy, List.length_append]; rfl
  have HY := Aside0.mk hy
  clear hy
  have stage : ∀ rest, valP v = (v.f0 % 256) :: rest → l ++ valP v = y ++ rest := fun rest h => by rw [h, HY.out, List.append_assoc]; rfl
  by_cases k1 : v.f0 = 1
  · have k1b : (v.f0 == 1) = true := by simpa using k1
    have hst := stage (varP (zigP v.f1)) (by unfold valP; rw [if_pos k1])
    have hz := zigP_range v.f1 hn.1 hn.2
    rw [hst]
    clear stage hst
    try clear k1
    try clear k2
    go_enter Tryz.func69, Tryz.ntmps69
    go_wp2_with (first | ((with_reducible refine gate_builtin (b := .append) (xs := #[.tmp 5, .tmp 9]) rfl ?_); at_builtin; refine app_rows rfl (.tmp 5) (.tmp 9) rfl u l [v.f0 % 256] (some ⟨w.heap.size + 1, 0, none⟩) 1 1 rfl rfl HA1.out HO1.out (by have := HLL.out; omega) ?_; intro v2 w2 ha2 hk2; rw [← HY.out] at ha2; have HA2 := Aside0.mk ha2; have HG2 := Aside0.mk (HG1.out.trans hk2); have HX2 := Aside0.mk (Stay.block HA1.out hk2.kept HX1.out (by decide)); have p0 := blk_cell HX2.out 0; have p1 := blk_cell HX2.out 1; have p2 := blk_cell HX2.out 2; simp only [List.getElem?_toArray, List.getElem?_cons_zero, List.getElem?_cons_succ] at p0 p1 p2; clear ha2 hk2) | (go_at_call 109; (with_reducible refine (zig_calls v.f1 hn.1 hn.2 _).mono ?_); rintro e w' ⟨rfl, rfl⟩) | (go_at_call 29; refine (app_var w0 _ _ y (zigP v.f1) HA2.out hz.1 hz.2 (by have := HLL.out; omega)).mono ?_; rintro e w3 ⟨v3, rfl, ha3, hk3⟩; have HA3 := Aside0.mk ha3; have HG3 := Aside0.mk (HG2.out.trans hk3); clear ha3 hk3))
    go_ret
    exact ⟨_, rfl, HA3.out, HG3.out⟩
  by_cases k2 : v.f0 = 2
  · have k1b : (v.f0 == 1) = false := by simpa using k1
    have k2b : (v.f0 == 2) = true := by simpa using k2
    have hst := stage (blobP (txtP v.f2)) (by unfold valP; rw [if_neg k1, if_pos k2])
    rw [hst]
    clear stage hst
    try clear k1
    try clear k2
    go_enter Tryz.func69, Tryz.ntmps69
    go_wp2_with (first | ((with_reducible refine gate_builtin (b := .append) (xs := #[.tmp 5, .tmp 9]) rfl ?_); at_builtin; refine app_rows rfl (.tmp 5) (.tmp 9) rfl u l [v.f0 % 256] (some ⟨w.heap.size + 1, 0, none⟩) 1 1 rfl rfl HA1.out HO1.out (by have := HLL.out; omega) ?_; intro v2 w2 ha2 hk2; rw [← HY.out] at ha2; have HA2 := Aside0.mk ha2; have HG2 := Aside0.mk (HG1.out.trans hk2); have HX2 := Aside0.mk (Stay.block HA1.out hk2.kept HX1.out (by decide)); have p0 := blk_cell HX2.out 0; have p1 := blk_cell HX2.out 1; have p2 := blk_cell HX2.out 2; simp only [List.getElem?_toArray, List.getElem?_cons_zero, List.getElem?_cons_succ] at p0 p1 p2; clear ha2 hk2))
    rw [Lib.run_convert_string_bytes w2 9 30 5 v.f2 Tryz.underlying9 Tryz.underlying30 Tryz.underlying5]
    have hbw := below_bytes w2 v.f2
    have hn2 : v2.ownBlock ≠ some w2.heap.size := fun hk => by
      obtain ⟨_, inner, ho, _⟩ := HA2.out.own
      obtain ⟨cells, hc⟩ := own_typed ho _ hk
      exact Nat.lt_irrefl _ (by have := (Array.getElem?_eq_some_iff.1 hc).1; exact this)
    have HA3 := Aside0.mk (HA2.out.below hbw)
    have HG3 := Aside0.mk (HG2.out.below hbw)
    have HC3 := Aside0.mk (txt_C w2 v.f2 hs)
    have HLT := Aside0.mk (show w2.heap.size < (Lib.bytesWorld w2 5 v.f2).heap.size from by rw [Lib.bytesWorld_size]; omega)
    have HTL := Aside0.mk (txtP_length v.f2)
    clear p0 p1 p2 hbw
    generalize Lib.bytesWorld w2 5 v.f2 = W3 at *
    go_wp2_with (go_at_call 32; refine (app_blob w0 _ v2 y _ _ _ (txtP v.f2) HTL.out.symm HA3.out (fun W hst => hst.C hn2 HLT.out HC3.out) (by have := HLL.out; omega) (by rw [HTL.out]; omega)).mono ?_; rintro e w4 ⟨v4, rfl, ha4, hk4⟩; have HA4 := Aside0.mk ha4; have HG4 := Aside0.mk (HG3.out.trans hk4); clear ha4 hk4)
    go_ret
    exact ⟨_, rfl, HA4.out, HG4.out⟩
  · have k1b : (v.f0 == 1) = false := by simpa using k1
    have k2b : (v.f0 == 2) = false := by simpa using k2
    have hst := stage [] (by unfold valP; rw [if_neg k1, if_neg k2])
    rw [List.append_nil] at hst
    rw [hst]
    clear stage hst
    try clear k1
    try clear k2
    go_enter Tryz.func69, Tryz.ntmps69
    go_wp2_with (first | ((with_reducible refine gate_builtin (b := .append) (xs := #[.tmp 5, .tmp 9]) rfl ?_); at_builtin; refine app_rows rfl (.tmp 5) (.tmp 9) rfl u l [v.f0 % 256] (some ⟨w.heap.size + 1, 0, none⟩) 1 1 rfl rfl HA1.out HO1.out (by have := HLL.out; omega) ?_; intro v2 w2 ha2 hk2; rw [← HY.out] at ha2; have HA2 := Aside0.mk ha2; have HG2 := Aside0.mk (HG1.out.trans hk2); have HX2 := Aside0.mk (Stay.block HA1.out hk2.kept HX1.out (by decide)); have p0 := blk_cell HX2.out 0; have p1 := blk_cell HX2.out 1; have p2 := blk_cell HX2.out 2; simp only [List.getElem?_toArray, List.getElem?_cons_zero, List.getElem?_cons_succ] at p0 p1 p2; clear ha2 hk2))
    go_ret
    exact ⟨_, rfl, HA2.out, HG2.out⟩
end Go.Proofs.YtjmhiklmlgbifaaGreatDoor.PMan
end
section
namespace Go.Proofs.YtjmhiklmlgbifaaGreatDoor.PMan
open Go.RowKit Go.Proofs.YtjmhiklmlgbifaaGreatDoorW.PrintWords Go.Proofs.YtjmhiklmlgbifaaGreatDoorW.PrintLast Go.Proofs.YtjmhiklmlgbifaaGreatDoorW.PrintMore
set_option linter.unusedVariables false
set_option linter.unusedSimpArgs false
def rowF : List S68 → List Int
  | [] => []
  | v :: r => valP v ++ rowF r
def rowsF : List (List S68) → List Int
  | [] => []
  | r :: l => rowF r ++ rowsF l
def rowsP (rows : List (List S68)) : List Int := varP rows.length ++ rowsF rows
/-- A value of the model's: its number is one of 64 bits, its text isn't beyond all bounds. -/
def ValOk (v : S68) : Prop := (-9223372036854775808 ≤ v.f1 ∧ v.f1 ≤ 9223372036854775807) ∧ v.f2.size < 1000000000
theorem getD_mem {α : Type} (l : List α) (j : Nat) (d : α) (h : j < l.length) : l.getD j d ∈ l := by
  rw [List.getD_eq_getElem?_getD, List.getElem?_eq_getElem h]
  exact List.getElem_mem h
set_option maxHeartbeats 3200000 in
set_option maxRecDepth 100000 in
theorem app_rowsP (w0 w : World) (u : Value) (l : List Int) (A : Option Addr) (c : Nat) (rows : List (List S68)) (ha : App w0 w u l) (hr : Kd.C (Kd.slice 68 k68) w0 A rows.length rows) (hv : ∀ r ∈ rows, ∀ v ∈ r, ValOk v) (hl : (l ++ rowsP rows).length < 100000000000) :
    Calls Tryz.prog 33 #[u, .slice A rows.length c] w fun e w' => ∃ x, e = .returned x ∧ App w0 w' x (l ++ rowsP rows) := by
  have HA := Aside0.mk ha
  have HR := Aside0.mk hr
  have HV := Aside0.mk hv
  have hb : rows.length ≤ 9223372036854775807 := hr.2.1
  have hul : l.length < 100000000000 := by rw [List.length_append] at hl; omega
  clear ha hr hv
  obtain ⟨T, hT⟩ : ∃ T, T = l ++ rowsP rows := ⟨_, rfl⟩
  rw [← hT] at hl ⊢
  have HT := Aside0.mk hT
  clear hT
  have hu : IntKind.u64.wrap (rows.length : Int) = (rows.length : Int) := u64_small _ (by omega) (by omega)
  go_enter Tryz.func33, Tryz.ntmps33
  go_wp2_with fail
  refine (app_var w0 w u l rows.length HA.out (by omega) (by omega) (by omega)).mono ?_
  rintro e w1 ⟨v1, rfl, ha1, hk1⟩
  have HA1 := Aside0.mk ha1
  clear ha1 hk1
  go_wp2_with fail
  go_loopw [0, 16] (fun vb v16 w' => ∃ (i : Nat) (y : List Int), i ≤ rows.length ∧ v16 = .int .i64 i ∧ Aside0 (App w0 w' vb y) ∧ Aside0 (y ++ rowsF (rows.drop i) = T)) (fun _ i _ => rows.length - (intOf i).toNat)
  case atStart => exact ⟨0, _, Nat.zero_le _, rfl, HA1, ⟨by rw [HT.out, List.drop_zero, rowsP, List.append_assoc]⟩⟩
  case round =>
    obtain ⟨i, y, hi, rfl, HY, HE⟩ := hrel
    by_cases hlt : i < rows.length
    · obtain ⟨ad, A0, c0, e1, x0, hc0, hC⟩ := at_L6 (Kd.C_below HR.out HY.out.bel) (i : Int) (by omega) (by omega)
      cases e1
      have hmem : ∀ v ∈ rd_L6 rows (i : Int), ValOk v := HV.out _ (getD_mem rows i [] hlt)
      have he := HE.out
      rw [drop_cons rows i [] hlt, rowsF] at he
      have hC0 : Kd.C k68 w0 A0 (rd_L6 rows (i : Int)).length (rd_L6 rows (i : Int)) := by
        obtain ⟨ad2, A2, c2, e2, y0, _, hC2⟩ := at_L6 HR.out (i : Int) (by omega) (by omega)
        cases e2
        have := pw_cell_below HY.out.bel y0
        rw [x0] at this
        injection this with this
        injection this with h1 h2 h3
        subst h1
        exact hC2
      have he2 : y ++ (rowF ((rd_L6 rows (i : Int)).drop 0) ++ rowsF (rows.drop (i + 1))) = T := he
      generalize rd_L6 rows (i : Int) = r at *
      rw [show ((i : Int)).toNat = i from by omega] at x0
      have HC0 := Aside0.mk hC0
      have HE2 := Aside0.mk he2
      have HM := Aside0.mk hmem
      have hrb : r.length ≤ 9223372036854775807 := hC0.2.1
      clear hC hC0 he he2 HE hmem
      go_wp2_with fail
      go_loopw [0, 22] (fun vb v22 w' => ∃ (k : Nat) (z : List Int), k ≤ r.length ∧ v22 = .int .i64 k ∧ Aside0 (App w0 w' vb z) ∧ Aside0 (z ++ (rowF (r.drop k) ++ rowsF (rows.drop (i + 1))) = T)) (fun _ i _ => r.length - (intOf i).toNat)
      case atStart => exact ⟨0, y, Nat.zero_le _, rfl, HY, HE2⟩
      case round =>
        obtain ⟨k, z, hk, rfl, HZ, HF⟩ := hrel
        by_cases hkt : k < r.length
        · obtain ⟨bd, e2, y0, y1, y2⟩ := at_T68 (Kd.C_below HC0.out HZ.out.bel) (k : Int) (by omega) (by omega)
          cases e2
          have hok : ValOk (rd_T68 r (k : Int)) := HM.out _ (getD_mem r k z68 hkt)
          have he := HF.out
          rw [drop_cons r k z68 hkt, rowF] at he
          have he2 : z ++ (valP (rd_T68 r (k : Int)) ++ rowF (r.drop (k + 1)) ++ rowsF (rows.drop (i + 1))) = T := he
          generalize rd_T68 r (k : Int) = v at *
          rw [show ((k : Int)).toNat = k from by omega] at y0 y1 y2
          have hzl : z.length < 100000000000 := by
            have := congrArg List.length he2
            rw [List.length_append] at this
            omega
          have HE3 := Aside0.mk he2
          have HOK := Aside0.mk hok
          clear he he2 hok HF
          go_wp2_with (go_at_call 69; refine (app_val w0 _ _ z v (HZ.out.below (below_alloc (Below.refl _ _) _)) hzl HOK.out.1 HOK.out.2).mono ?_; rintro e w4 ⟨v4, rfl, ha4, hk4⟩; have HA4 := Aside0.mk ha4; clear ha4 hk4)
          go_roundw
          case rel => exact ⟨k + 1, _, by omega, by go_num, HA4, ⟨by rw [← HE3.out, List.append_assoc, List.append_assoc]⟩⟩
          case measure => simp [intOf]; omega
        · obtain rfl : k = r.length := by omega
          have he := HF.out
          rw [List.drop_eq_nil_of_le (Nat.le_refl _)] at he
          have HE3 := Aside0.mk (show z ++ rowsF (rows.drop (i + 1)) = T from he)
          clear he HF
          go_wp2
          go_roundw
          case rel => exact ⟨i + 1, z, by omega, by go_num, HZ, HE3⟩
          case measure => simp [intOf]; omega
    · obtain rfl : i = rows.length := by omega
      have he := HE.out
      rw [List.drop_eq_nil_of_le (Nat.le_refl _), rowsF, List.append_nil] at he
      subst he
      go_wp2
      go_ret
      exact ⟨_, rfl, HY.out⟩
end Go.Proofs.YtjmhiklmlgbifaaGreatDoor.PMan
end
section
namespace Go.Proofs.YtjmhiklmlgbifaaGreatDoor.PMan
open Go.RowKit Go.Proofs.YtjmhiklmlgbifaaGreatDoorW.PrintWords Go.Proofs.YtjmhiklmlgbifaaGreatDoorW.PrintLast Go.Proofs.YtjmhiklmlgbifaaGreatDoorW.PrintMore
set_option linter.unusedVariables false
set_option linter.unusedSimpArgs false
theorem hash_C {w : World} {b n : Nat} {h : List Int} (hr : w.rangeAt b n (hashCells h)) (hl : h.length ≤ 9223372036854775807) : Kd.C (Kd.int .u8) w (some ⟨b, n, none⟩) h.length h := by
  refine ⟨rfl, hl, fun _ => ⟨_, rfl, fun j p hj => ⟨[.int .u8 p], rfl, rfl, fun i u hu => ?_⟩⟩⟩
  match i, hu with
  | i + 1, hu => simp at hu
  | 0, hu =>
    obtain rfl : Value.int .u8 p = u := by simpa using hu
    rw [Addr.add_mid, show n + (j * (Kd.int IntKind.u8).sz + 0) = n + j from by show n + (j * 1 + 0) = n + j; omega]
    exact hr j _ (by unfold hashCells; rw [List.getElem?_map, hj]; rfl)
theorem app_varW (w0 w : World) (u : Value) (l : List Int) (x : Int) (ha : App w0 w u l) (h0 : 0 ≤ x) (h1 : x < 18446744073709551616) (hl : l.length < 100000000000000) :
    Calls Tryz.prog 29 #[u, .int .u64 (IntKind.u64.wrap x)] w fun e w' => ∃ v, e = .returned v ∧ App w0 w' v (l ++ varP x) ∧ Grew w w' u v := by
  rw [u64_small x h0 h1]
  exact app_var w0 w u l x ha h0 h1 hl
theorem app_rows_step {ops : Array Oper} {o : Oper} {a : Act} {w0 W : World} {Q : Exit → Act → World → Prop} {Kc : Act → World → Prop} (hw : Region.wanted o (yielded ops a.tmps) = true) (s x : Operand)
    (ho : o.op = .call { callee := .builtin .append, args := #[s, x], argTypes := #[30, 30] }) (u : Value) (l ys : List Int) (A : Option Addr) (m c : Nat) (hs : a.eval s = u) (hx : a.eval x = .slice A m c)
    (ha : App w0 W u l) (hr : Kd.C (Kd.int .u8) W A m ys) (hl : l.length + m ≤ 100000000000000)
    (h : ∀ v1 w1, App w0 w1 v1 (l ++ ys) → Grew W w1 u v1 → Kc (a.put o.dst v1) w1) :
    if Region.wanted o (yielded ops a.tmps) = true then Oper.wp Tryz.prog o a W Kc Q else Kc (a.put o.dst undef) W := by
  refine Kd.R_append_rows_step (Kd.int .u8) (w0 := w0) w0.heap.size hw s x 30 5 (.int .u8 0) 1 ho Tryz.underlying30 info5 rfl (by decide) (by omega) u l ys A m c (fun _ => True) (fun _ => False) hs hx ha.own hr (fun _ _ h => h) (fun _ h => h.elim) (fun _ _ => trivial) ha.bel ha.bel.size (by omega) ?_
  intro v1 w1 h1 hb hg hat
  exact h v1 w1 ⟨hb, h1⟩ ⟨Kept.of_grown hg (Kept.refl W _) (fun k hk => .inl hk), fun k hk => by
    rcases hat with h | ⟨b, hb1, hb2⟩
    · exact .inl (h ▸ hk)
    · rw [hb1] at hk
      exact .inr (Option.some.inj hk ▸ hb2)⟩
theorem valP_len (v : S68) (h : ValOk v) : (valP v).length ≤ v.f2.size + 30 := by
  have h1 := varP_len (zigP v.f1)
  have h2 := varP_len ((txtP v.f2).length : Int)
  have h3 := txtP_length v.f2
  unfold valP blobP
  rw [List.length_cons]
  split
  · omega
  · split
    · rw [List.length_append]; omega
    · simp
def zoneF (z : S70) : List Int := if z.f1 = true then 1 :: (valP z.f2 ++ valP z.f3) else [0]
def colF (c : CH) : List Int := varP c.z.f0 ++ (zoneF c.z ++ c.h)
def colsF : List CH → List Int
  | [] => []
  | c :: l => colF c ++ colsF l
def headP (x : Hd) : List Int := varP x.rows ++ (varP x.live ++ (x.dead ++ colsF x.cols))
structure ColOk (c : CH) : Prop where
  n0 : 0 ≤ c.z.f0
  n1 : c.z.f0 < 18446744073709551616
  mn : ValOk c.z.f2
  mx : ValOk c.z.f3
  h : c.h.length = 32
structure HdOk (x : Hd) : Prop where
  r0 : 0 ≤ x.rows
  r1 : x.rows < 18446744073709551616
  l0 : 0 ≤ x.live
  l1 : x.live < 18446744073709551616
  d : x.dead.length = 32
  c : ∀ c ∈ x.cols, ColOk c
theorem chunk_C {w : World} {b : Nat} {z : S70} {h : List Int} {t : TypeId} (hx : w.heap[b]? = some (.cells (zCells z ++ hashCells h).toArray t (0, 0))) (hl : h.length = 32) : Kd.C (Kd.int .u8) w (some ⟨b, 8, none⟩) 32 h := by
  have := hash_C (range_of (pre := zCells z) (cs := hashCells h) (post := []) (by rw [List.append_nil]; exact hx) 8 rfl) (by omega)
  rw [hl] at this
  exact this
set_option maxHeartbeats 3200000 in
set_option maxRecDepth 100000 in
theorem putHeader_calls (x : Hd) (A : Option Addr) (c0 : Nat) (w : World) (hok : HdOk x) (hc : x.cols.length ≤ c0) (hr : kCH.C w A x.cols.length x.cols) (hl : (headP x).length < 10000000000) :
    Calls Tryz.prog 31 #[.agg (hdCells x A c0).toArray] w fun e w' => ∃ v, e = .returned v ∧ Kd.R (Kd.int .u8) 5 w' w.heap.size (fun _ => True) v (headP x) ∧ Below w.heap.size w w' := by
  have hd := hok.d
  have i0 : (hdCells x A c0).toArray[0]? = some (.int .i64 x.rows) := rfl
  have i1 : (hdCells x A c0).toArray[1]? = some (.int .i64 x.live) := rfl
  have i34 : (hdCells x A c0).toArray[34]? = some (.slice A x.cols.length c0) := by
    rw [List.getElem?_toArray]
    unfold hdCells hashCells
    rw [List.getElem?_cons_succ, List.getElem?_cons_succ, List.getElem?_append_right (by rw [List.length_map]; omega), List.length_map, hd]
    rfl
  have hrg : ∀ W : World, W.heap[w.heap.size]? = some (.cells (hdCells x A c0).toArray 64 (0, 0)) → W.rangeAt w.heap.size 2 (hashCells x.dead) := fun W h => range_of (pre := [.int .i64 x.rows, .int .i64 x.live]) (cs := hashCells x.dead) (post := [.slice A x.cols.length c0]) h 2 rfl
  generalize (hdCells x A c0).toArray = cc at *
  have HRG := Aside0.mk hrg
  have HR := Aside0.mk hr
  have HOK := Aside0.mk hok
  have HI34 := Aside0.mk i34
  have HI1 := Aside0.mk i1
  have HD := Aside0.mk hd
  have hb : x.cols.length ≤ 9223372036854775807 := hr.2.1
  clear hr hok i34 hd hrg
  obtain ⟨T, hT⟩ : ∃ T, T = headP x := ⟨_, rfl⟩
  rw [← hT] at hl ⊢
  have HT := Aside0.mk hT
  clear hT
  go_enter Tryz.func31, Tryz.ntmps31
  go_wp2_with fail
  have hbw : Below w.heap.size w (w.alloc (.cells cc 64)).drew := below_drew (below_alloc (Below.refl _ _) _)
  have hx : (w.alloc (.cells cc 64)).drew.heap[w.heap.size]? = some (.cells cc 64 (0, 0)) := heap_alloc_new w _
  have c0 := (blk_cell hx 0).trans i0
  have c1 := (blk_cell hx 1).trans HI1.out
  have HX := Aside0.mk hx
  have HBW := Aside0.mk hbw
  clear hx hbw i0 i1
  refine start_ (n := 9) (S := fun w' => w'.cell? ⟨w.heap.size, 0, none⟩ = some (.int .i64 x.rows) ∧ w'.cell? ⟨w.heap.size, 1, none⟩ = some (.int .i64 x.live)) (ds := []) #[false, false, false, false, false, false, false, false, false] (by kernel_rfl) rfl rfl ⟨c0, c1⟩ (fun hHeld => ?_)
  generalize (w.alloc (.cells cc 64)).drew = W2 at *
  refine pure_ (i := 0) (N := some 6) (v := ?_) (a' := ?_) #[true, false, false, false, false, false, false, false, false] rfl rfl (by kernel_rfl) (fun _ _ _ h => h) (Or.inl ⟨by rfl, ?_⟩) ?_ ?_
  rotate_left
  · intro w'
    go_simp
    with_reducible rfl
  rotate_left
  · simp only [Act.put, List.setIfInBounds_toArray, List.set_cons_zero, List.set_cons_succ, i64_w, i32_w]
    rfl
  refine pure_ (i := 4) (N := some 10) (v := ?_) (a' := ?_) #[true, false, false, false, true, false, false, false, false] rfl rfl (by kernel_rfl) (fun _ _ _ h => h) (Or.inl ⟨by rfl, ?_⟩) ?_ ?_
  rotate_left
  · intro w'
    go_simp
    with_reducible rfl
  rotate_left
  · simp only [Act.put, List.setIfInBounds_toArray, List.set_cons_zero, List.set_cons_succ, i64_w, i32_w]
    rfl
  refine take_ (i := 1) (N := some 7) (v := ?_) (a' := ?_) #[true, true, false, false, true, false, false, false, false] rfl rfl (by kernel_rfl) (fun _ _ _ h => h) (Or.inl ⟨by rfl, ?_⟩) hHeld ?_ ?_
  rotate_left
  · rintro w' ⟨s0, s1⟩
    go_simp
    with_reducible rfl
  rotate_left
  · simp only [Act.put, List.setIfInBounds_toArray, List.set_cons_zero, List.set_cons_succ, i64_w, i32_w]
    rfl
  refine pure_ (i := 2) (N := some 8) (v := ?_) (a' := ?_) #[true, true, true, false, true, false, false, false, false] rfl rfl (by kernel_rfl) (fun _ _ _ h => h) (Or.inl ⟨by rfl, ?_⟩) ?_ ?_
  rotate_left
  · intro w'
    go_simp
    with_reducible rfl
  rotate_left
  · simp only [Act.put, List.setIfInBounds_toArray, List.set_cons_zero, List.set_cons_succ, i64_w, i32_w]
    rfl
  refine take_ (i := 5) (N := some 11) (v := ?_) (a' := ?_) #[true, true, true, false, true, true, false, false, false] rfl rfl (by kernel_rfl) (fun _ _ _ h => h) (Or.inl ⟨by rfl, ?_⟩) hHeld ?_ ?_
  rotate_left
  · rintro w' ⟨s0, s1⟩
    go_simp
    with_reducible rfl
  rotate_left
  · simp only [Act.put, List.setIfInBounds_toArray, List.set_cons_zero, List.set_cons_succ, i64_w, i32_w]
    rfl
  refine pure_ (i := 6) (N := some 12) (v := ?_) (a' := ?_) #[true, true, true, false, true, true, true, false, false] rfl rfl (by kernel_rfl) (fun _ _ _ h => h) (Or.inl ⟨by rfl, ?_⟩) ?_ ?_
  rotate_left
  · intro w'
    go_simp
    with_reducible rfl
  rotate_left
  · simp only [Act.put, List.setIfInBounds_toArray, List.set_cons_zero, List.set_cons_succ, i64_w, i32_w]
    rfl
  refine one_ (i := 3) (N := some 9) #[true, true, true, true, true, true, true, false, false] rfl rfl (by kernel_rfl) (by decide) (fun K hK => ?_)
  refine goes_ Tryz.func29 (by kernel_rfl) rfl #[.slice none 0 0, .int .u64 (IntKind.u64.wrap x.rows)] (by rfl) rfl rfl (by simp only [List.map_toArray, List.map_cons, List.map_nil]; rfl) ?_
  with_reducible refine (app_varW W2 W2 _ _ x.rows (App.nil W2) HOK.out.r0 HOK.out.r1 (by decide)).mono ?_
  rintro e w3 ⟨v3, rfl, ha3, hk3⟩
  refine ⟨_, rfl, ?_⟩
  have HA3 := Aside0.mk ha3
  clear ha3 hk3
  refine hK.out _ _ ⟨pw_cell_below HA3.out.bel c0, pw_cell_below HA3.out.bel c1⟩ (fun hHeld => ?_)
  clear hK K
  refine norm_ (a' := ?_) ?_ ?_
  rotate_left
  · show Act.put _ (some 9) _ = _
    simp only [Act.put, List.setIfInBounds_toArray, List.set_cons_zero, List.set_cons_succ, i64_w, i32_w]
    rfl
  refine one_ (i := 7) (N := some 13) #[true, true, true, true, true, true, true, true, false] rfl rfl (by kernel_rfl) (by decide) (fun K hK => ?_)
  refine goes_ Tryz.func29 (by kernel_rfl) rfl #[v3, .int .u64 (IntKind.u64.wrap x.live)] (by rfl) rfl rfl (by simp only [List.map_toArray, List.map_cons, List.map_nil]; rfl) ?_
  with_reducible refine (app_varW W2 w3 v3 _ x.live HA3.out HOK.out.l0 HOK.out.l1 (by have := varP_len x.rows; rw [List.nil_append]; omega)).mono ?_
  rintro e w4 ⟨v4, rfl, ha4, hk4⟩
  refine ⟨_, rfl, ?_⟩
  have HA4 := Aside0.mk ha4
  clear ha4 hk4
  refine hK.out _ _ ⟨pw_cell_below HA4.out.bel c0, pw_cell_below HA4.out.bel c1⟩ (fun hHeld => ?_)
  clear hK K
  refine norm_ (a' := ?_) ?_ ?_
  rotate_left
  · show Act.put _ (some 13) _ = _
    simp only [Act.put, List.setIfInBounds_toArray, List.set_cons_zero, List.set_cons_succ, i64_w, i32_w]
    rfl
  refine pure_ (i := 8) (N := some 3) (v := ?_) (a' := ?_) #[true, true, true, true, true, true, true, true, true] rfl rfl (by kernel_rfl) (fun _ _ _ h => h) (Or.inl ⟨by rfl, ?_⟩) ?_ ?_
  rotate_left
  · intro w'
    go_simp
    with_reducible rfl
  rotate_left
  · simp only [Act.put, List.setIfInBounds_toArray, List.set_cons_zero, List.set_cons_succ, i64_w, i32_w]
    rfl
  refine done_ (by kernel_rfl) ?_
  have HX4 := Aside0.mk ((HA4.out.bel.block _ (blk_lt HX.out)).trans HX.out)
  have hC4 := hash_C (HRG.out w4 HX4.out) (by rw [HD.out]; omega)
  rw [HD.out] at hC4
  have HC4 := Aside0.mk hC4
  clear hC4
  obtain ⟨y4, hy4⟩ : ∃ y, y = ([] ++ varP x.rows) ++ varP x.live := ⟨_, rfl⟩
  rw [← hy4] at HA4
  have HY4 := Aside0.mk hy4
  have hy4l : y4.length ≤ 20 := by
    have h1 := varP_len x.rows
    have h2 := varP_len x.live
    rw [hy4, List.nil_append, List.length_append]
    omega
  clear hy4
  go_wp2_with ((with_reducible refine gate_builtin (b := .append) (xs := #[.tmp 14, .tmp 16]) rfl ?_); at_builtin; refine app_rows rfl (.tmp 14) (.tmp 16) rfl v4 y4 x.dead (some ⟨w.heap.size, 2, none⟩) 32 32 rfl rfl HA4.out HC4.out (by omega) ?_; intro v5 w5 ha5 hk5; have HA5 := Aside0.mk ha5; have HX5 := Aside0.mk ((ha5.bel.block _ (blk_lt HX.out)).trans HX.out); have c34 := (blk_cell HX5.out 34).trans HI34.out; clear ha5 hk5)
  clear c0 c1 c34
  go_loopw [3, 21] (fun vb v21 w' => ∃ (i : Nat) (y : List Int), i ≤ x.cols.length ∧ v21 = .int .i64 i ∧ Aside0 (App W2 w' vb y) ∧ Aside0 (y ++ colsF (x.cols.drop i) = T)) (fun _ i _ => x.cols.length - (intOf i).toNat)
  case atStart => exact ⟨0, _, Nat.zero_le _, rfl, HA5, ⟨by rw [HT.out, HY4.out, headP, List.nil_append, List.drop_zero, List.append_assoc, List.append_assoc]⟩⟩
  case round =>
    obtain ⟨i, y, hi, rfl, HY, HE⟩ := hrel
    by_cases hlt : i < x.cols.length
    · have HRr := Kd.C_below (Kd.C_below HR.out HBW.out) HY.out.bel
      obtain ⟨b, o, cs, e1, hK, hcl, hm⟩ := C_mid HRr zCH i hlt (by decide)
      cases e1
      have hco : ColOk (x.cols.getD i zCH) := HOK.out.c _ (getD_mem x.cols i zCH hlt)
      have he := HE.out
      rw [drop_cons x.cols i zCH hlt, colsF] at he
      generalize x.cols.getD i zCH = c at *
      obtain ⟨rfl, hh⟩ := kCH_open hK
      rw [kCH_sz] at hm hcl
      have HCL := Aside0.mk hcl
      have HM := Aside0.mk hm
      have HCO := Aside0.mk hco
      have HE2 := Aside0.mk he
      have HSZ := Aside0.mk (show ((zCells c.z ++ hashCells c.h).toArray).size = 40 from by rw [List.size_toArray]; exact hcl)
      have hyl : y.length < 10000000000 := by
        have := congrArg List.length he
        rw [List.length_append] at this
        omega
      clear hK hcl hm hco he HE HRr
      obtain ⟨y5, hy5⟩ : ∃ y5, y5 = y ++ varP c.z.f0 := ⟨_, rfl⟩
      have hy5l : y5.length < 10000000010 := by
        have h1 := varP_len c.z.f0
        rw [hy5, List.length_append]
        omega
      have HY5 := Aside0.mk hy5l
      have HQ5 := Aside0.mk hy5
      clear hy5
      have HHH := Aside0.mk hh
      clear hh
      cases hsm : c.z.f1 with
      | false =>
        have HSM := Aside0.mk hsm
        obtain ⟨y7, hy7⟩ : ∃ y7, y7 = y5 ++ [(0 : Int)] := ⟨_, rfl⟩
        have hy7l : y7.length < 10000000020 := by rw [hy7, List.length_append, List.length_singleton]; omega
        have HQ7 := Aside0.mk hy7
        clear hy7 hsm
        go_wp2_with (first | (refine wpList_load_mid rfl 72 (.tmp 23) rfl b (o + i * 40) rfl (zCells c.z ++ hashCells c.h) _ HM.out Tryz.underlying72 rfl (by rw [HCL.out]; kernel_rfl) ?_) | (refine wpList_store_row rfl 72 (.tmp 5) (.tmp 24) rfl wr.heap.size ((zCells c.z ++ hashCells c.h).toArray) rfl rfl 72 _ (heap_alloc_new wr _) (by rw [HSZ.out]; kernel_rfl) (by rw [HSZ.out]; rfl) (ch_all _ _) ?_; rw [World.setRow_alloc_new]; have hx := heap_alloc_new wr (.cells (zCells c.z ++ hashCells c.h).toArray 72); have hbr : Below wr.heap.size wr (wr.alloc (.cells (zCells c.z ++ hashCells c.h).toArray 72)) := below_alloc (Below.refl _ _) _; have HA6 := Aside0.mk (HY.out.below hbr); have HX6 := Aside0.mk hx; clear hx hbr; generalize (wr.alloc (.cells (zCells c.z ++ hashCells c.h).toArray 72)) = W6 at *; have z0 : W6.cell? ⟨wr.heap.size, 0, none⟩ = some (.int .i64 c.z.f0) := (blk_cell HX6.out 0).trans rfl) | (go_at_call 29; refine (app_varW W2 W6 _ y c.z.f0 HA6.out HCO.out.n0 HCO.out.n1 (by omega)).mono ?_; rintro e w5 ⟨v5, rfl, ha5, hk5⟩; rw [← HQ5.out] at ha5; have HA5 := Aside0.mk ha5; have HX5 := Aside0.mk (Stay.block HA6.out hk5.kept HX6.out (by decide)); clear ha5 hk5; have z1 : w5.cell? ⟨wr.heap.size, 1, none⟩ = some (.bool false) := (blk_cell HX5.out 1).trans (by show some (Value.bool c.z.f1) = _; rw [HSM.out])) | ((with_reducible refine gate_builtin (b := .append) (xs := #[.tmp 45, .tmp 46]) rfl ?_); at_builtin; have HA6 := Aside0.mk (HA5.out.below (below_alloc (Below.refl _ _) (.cells #[.int .u8 0] 5))); have HO6 := Aside0.mk (one_C (heap_alloc_new w5 (.cells #[.int .u8 0] 5))); have HX6 := Aside0.mk (((below_alloc (Below.refl w5.heap.size w5) (.cells #[.int .u8 0] 5)).block _ (blk_lt HX5.out)).trans HX5.out); generalize w5.alloc (.cells #[.int .u8 0] 5) = W6 at *; refine app_rows rfl (.tmp 45) (.tmp 46) rfl v5 y5 [0] (some ⟨w5.heap.size, 0, none⟩) 1 1 rfl rfl HA6.out HO6.out (by omega) ?_; intro v7 w7 ha7 hk7; rw [← HQ7.out] at ha7; have HA7 := Aside0.mk ha7; have hx7 := Stay.block HA6.out hk7.kept HX6.out (by decide); have HC7 := Aside0.mk (chunk_C hx7 HCO.out.h); clear hx7 ha7 hk7 z1) | ((with_reducible refine gate_builtin (b := .append) (xs := #[.tmp 48, .tmp 50]) rfl ?_); at_builtin; refine app_rows rfl (.tmp 48) (.tmp 50) rfl v7 y7 c.h (some ⟨wr.heap.size, 8, none⟩) 32 32 rfl rfl HA7.out HC7.out (by omega) ?_; intro v8 w8 ha8 hk8; have HA8 := Aside0.mk ha8; clear ha8 hk8))
        go_roundw
        case rel => exact ⟨i + 1, y7 ++ c.h, by omega, by go_num, HA8, ⟨by rw [← HE2.out, HQ7.out, HQ5.out, colF, zoneF, HSM.out, if_neg (by decide)]; simp only [List.append_assoc]⟩⟩
        case measure => simp [intOf]; omega
      | true =>
        have HSM := Aside0.mk hsm
        obtain ⟨y7, hy7⟩ : ∃ y7, y7 = y5 ++ [(1 : Int)] := ⟨_, rfl⟩
        have hy7l : y7.length < 10000000020 := by rw [hy7, List.length_append, List.length_singleton]; omega
        have HQ7 := Aside0.mk hy7
        obtain ⟨y8, hy8⟩ : ∃ y8, y8 = y7 ++ valP c.z.f2 := ⟨_, rfl⟩
        have hy8l : y8.length < 12000000020 := by have := valP_len c.z.f2 HCO.out.mn; have := HCO.out.mn.2; rw [hy8, List.length_append]; omega
        have HQ8 := Aside0.mk hy8
        obtain ⟨y9, hy9⟩ : ∃ y9, y9 = y8 ++ valP c.z.f3 := ⟨_, rfl⟩
        have hy9l : y9.length < 14000000020 := by have := valP_len c.z.f3 HCO.out.mx; have := HCO.out.mx.2; rw [hy9, List.length_append]; omega
        have HQ9 := Aside0.mk hy9
        clear hy7 hy8 hy9 hsm
        have HN1 := Aside0.mk (And.left HCO.out.mn)
        have HN2 := Aside0.mk (And.right HCO.out.mn)
        have HX1 := Aside0.mk (And.left HCO.out.mx)
        have HX2 := Aside0.mk (And.right HCO.out.mx)
        go_wp2_with (first | (refine wpList_load_mid rfl 72 (.tmp 23) rfl b (o + i * 40) rfl (zCells c.z ++ hashCells c.h) _ HM.out Tryz.underlying72 rfl (by rw [HCL.out]; kernel_rfl) ?_) | (refine wpList_store_row rfl 72 (.tmp 5) (.tmp 24) rfl wr.heap.size ((zCells c.z ++ hashCells c.h).toArray) rfl rfl 72 _ (heap_alloc_new wr _) (by rw [HSZ.out]; kernel_rfl) (by rw [HSZ.out]; rfl) (ch_all _ _) ?_; rw [World.setRow_alloc_new]; have hx := heap_alloc_new wr (.cells (zCells c.z ++ hashCells c.h).toArray 72); have hbr : Below wr.heap.size wr (wr.alloc (.cells (zCells c.z ++ hashCells c.h).toArray 72)) := below_alloc (Below.refl _ _) _; have HA6 := Aside0.mk (HY.out.below hbr); have HX6 := Aside0.mk hx; clear hx hbr; generalize (wr.alloc (.cells (zCells c.z ++ hashCells c.h).toArray 72)) = W6 at *; have z0 : W6.cell? ⟨wr.heap.size, 0, none⟩ = some (.int .i64 c.z.f0) := (blk_cell HX6.out 0).trans rfl) | (go_at_call 29; refine (app_varW W2 W6 _ y c.z.f0 HA6.out HCO.out.n0 HCO.out.n1 (by omega)).mono ?_; rintro e w5 ⟨v5, rfl, ha5, hk5⟩; rw [← HQ5.out] at ha5; have HA5 := Aside0.mk ha5; have HX5 := Aside0.mk (Stay.block HA6.out hk5.kept HX6.out (by decide)); clear ha5 hk5; have z1 : w5.cell? ⟨wr.heap.size, 1, none⟩ = some (.bool true) := (blk_cell HX5.out 1).trans (by show some (Value.bool c.z.f1) = _; rw [HSM.out])) | fail)
        have HAD : Aside0 (App W2 w5.drew v5 y5) := Aside0.mk (HA5.out.below (below_drew (Below.refl _ _)))
        have HXD : Aside0 (w5.drew.heap[wr.heap.size]? = some (.cells (zCells c.z ++ hashCells c.h).toArray 72 (0, 0))) := HX5
        clear z1
        refine start_ (n := 12) (S := fun w' => w'.cell? ⟨wr.heap.size, 2, none⟩ = some (.int .i64 c.z.f2.f0) ∧ w'.cell? ⟨wr.heap.size, 3, none⟩ = some (.int .i64 c.z.f2.f1) ∧ w'.cell? ⟨wr.heap.size, 4, none⟩ = some (.string c.z.f2.f2) ∧ w'.cell? ⟨wr.heap.size, 5, none⟩ = some (.int .i64 c.z.f3.f0) ∧ w'.cell? ⟨wr.heap.size, 6, none⟩ = some (.int .i64 c.z.f3.f1) ∧ w'.cell? ⟨wr.heap.size, 7, none⟩ = some (.string c.z.f3.f2)) (ds := []) #[false, false, false, false, false, false, false, false, false, false, false, false] (by kernel_rfl) rfl rfl ⟨(blk_cell HXD.out 2).trans rfl, (blk_cell HXD.out 3).trans rfl, (blk_cell HXD.out 4).trans rfl, (blk_cell HXD.out 5).trans rfl, (blk_cell HXD.out 6).trans rfl, (blk_cell HXD.out 7).trans rfl⟩ (fun hHeld => ?_)
        generalize w5.drew = WD at *
        refine pure_ (i := 0) (N := some 34) (v := ?_) (a' := ?_) #[true, false, false, false, false, false, false, false, false, false, false, false] rfl rfl (by kernel_rfl) (fun _ _ _ h => h) (Or.inl ⟨by rfl, ?_⟩) ?_ ?_
        rotate_left
        · intro w'
          go_simp
          with_reducible rfl
        rotate_left
        · simp only [Act.put, List.setIfInBounds_toArray, List.set_cons_zero, List.set_cons_succ, i64_w, i32_w]
          rfl
        refine pure_ (i := 3) (N := some 37) (v := ?_) (a' := ?_) #[true, false, false, true, false, false, false, false, false, false, false, false] rfl rfl (by kernel_rfl) (fun _ _ _ h => h) (Or.inl ⟨by rfl, ?_⟩) ?_ ?_
        rotate_left
        · intro w'
          go_simp
          with_reducible rfl
        rotate_left
        · simp only [Act.put, List.setIfInBounds_toArray, List.set_cons_zero, List.set_cons_succ, i64_w, i32_w]
          rfl
        refine pure_ (i := 4) (N := some 38) (v := ?_) (a' := ?_) #[true, false, false, true, true, false, false, false, false, false, false, false] rfl rfl (by kernel_rfl) (fun _ _ _ h => h) (Or.inl ⟨by rfl, ?_⟩) ?_ ?_
        rotate_left
        · intro w'
          go_simp
          with_reducible rfl
        rotate_left
        · simp only [Act.put, List.setIfInBounds_toArray, List.set_cons_zero, List.set_cons_succ, i64_w, i32_w]
          rfl
        refine pure_ (i := 7) (N := some 41) (v := ?_) (a' := ?_) #[true, false, false, true, true, false, false, true, false, false, false, false] rfl rfl (by kernel_rfl) (fun _ _ _ h => h) (Or.inl ⟨by rfl, ?_⟩) ?_ ?_
        rotate_left
        · intro w'
          go_simp
          with_reducible rfl
        rotate_left
        · simp only [Act.put, List.setIfInBounds_toArray, List.set_cons_zero, List.set_cons_succ, i64_w, i32_w]
          rfl
        refine pure_ (i := 8) (N := some 42) (v := ?_) (a' := ?_) #[true, false, false, true, true, false, false, true, true, false, false, false] rfl rfl (by kernel_rfl) (fun _ _ _ h => h) (Or.inl ⟨by rfl, ?_⟩) ?_ ?_
        rotate_left
        · intro w'
          go_simp
          with_reducible rfl
        rotate_left
        · simp only [Act.put, List.setIfInBounds_toArray, List.set_cons_zero, List.set_cons_succ, i64_w, i32_w]
          rfl
        refine take_ (i := 5) (N := some 39) (v := ?_) (a' := ?_) #[true, false, false, true, true, true, false, true, true, false, false, false] rfl rfl (by kernel_rfl) (fun _ _ _ h => h) (Or.inl ⟨by rfl, ?_⟩) hHeld ?_ ?_
        rotate_left
        · rintro w' ⟨s0, s1, s2, s3, s4, s5⟩
          go_simp
          with_reducible rfl
        rotate_left
        · simp only [Act.put, List.setIfInBounds_toArray, List.set_cons_zero, List.set_cons_succ, i64_w, i32_w]
          rfl
        refine take_ (i := 9) (N := some 43) (v := ?_) (a' := ?_) #[true, false, false, true, true, true, false, true, true, true, false, false] rfl rfl (by kernel_rfl) (fun _ _ _ h => h) (Or.inl ⟨by rfl, ?_⟩) hHeld ?_ ?_
        rotate_left
        · rintro w' ⟨s0, s1, s2, s3, s4, s5⟩
          go_simp
          with_reducible rfl
        rotate_left
        · simp only [Act.put, List.setIfInBounds_toArray, List.set_cons_zero, List.set_cons_succ, i64_w, i32_w]
          rfl
        refine one_ (i := 1) (N := some 35) #[true, true, false, true, true, true, false, true, true, true, false, false] rfl rfl (by kernel_rfl) (by decide) (fun K hK => ?_)
        refine value_ (w1 := ?_) (v := ?_) (by rfl) rfl ?_ ?_
        rotate_left 2
        · go_simp
          constructor
          · rfl
          · rfl
        have HA6 := Aside0.mk (HAD.out.below (below_alloc (Below.refl _ _) (.cells #[.int .u8 1] 5)))
        have HO6 := Aside0.mk (one_C (heap_alloc_new WD (.cells #[.int .u8 1] 5)))
        have HX6 := Aside0.mk (((below_alloc (Below.refl WD.heap.size WD) (.cells #[.int .u8 1] 5)).block _ (blk_lt HXD.out)).trans HXD.out)
        generalize WD.alloc (.cells #[.int .u8 1] 5) = W6 at *
        refine hK.out _ _ ⟨(blk_cell HX6.out 2).trans rfl, (blk_cell HX6.out 3).trans rfl, (blk_cell HX6.out 4).trans rfl, (blk_cell HX6.out 5).trans rfl, (blk_cell HX6.out 6).trans rfl, (blk_cell HX6.out 7).trans rfl⟩ (fun hHeld => ?_)
        clear hK K
        refine norm_ (a' := ?_) ?_ ?_
        rotate_left
        · show Act.put _ (some 35) _ = _
          simp only [Act.put, List.setIfInBounds_toArray, List.set_cons_zero, List.set_cons_succ, i64_w, i32_w]
          rfl
        refine one_ (i := 2) (N := some 36) #[true, true, true, true, true, true, false, true, true, true, false, false] rfl rfl (by kernel_rfl) (by decide) (fun K hK => ?_)
        refine app_rows_step (by rfl) (.tmp 34) (.tmp 35) (by rfl) v5 y5 [1] (some ⟨WD.heap.size, 0, none⟩) 1 1 rfl rfl HA6.out HO6.out (by omega) ?_
        intro v7 w7 ha7 hk7
        rw [← HQ7.out] at ha7
        have HA7 := Aside0.mk ha7
        have HX7 := Aside0.mk (Stay.block HA6.out hk7.kept HX6.out (by decide))
        clear ha7 hk7
        refine hK.out _ _ ⟨(blk_cell HX7.out 2).trans rfl, (blk_cell HX7.out 3).trans rfl, (blk_cell HX7.out 4).trans rfl, (blk_cell HX7.out 5).trans rfl, (blk_cell HX7.out 6).trans rfl, (blk_cell HX7.out 7).trans rfl⟩ (fun hHeld => ?_)
        clear hK K
        refine norm_ (a' := ?_) ?_ ?_
        rotate_left
        · show Act.put _ (some 36) _ = _
          simp only [Act.put, List.setIfInBounds_toArray, List.set_cons_zero, List.set_cons_succ, i64_w, i32_w]
          rfl
        refine one_ (i := 6) (N := some 40) #[true, true, true, true, true, true, true, true, true, true, false, false] rfl rfl (by kernel_rfl) (by decide) (fun K hK => ?_)
        refine goes_ Tryz.func69 (by kernel_rfl) rfl #[v7, .agg #[.int .i64 c.z.f2.f0, .int .i64 c.z.f2.f1, .string c.z.f2.f2]] (by rfl) rfl rfl (by simp only [List.map_toArray, List.map_cons, List.map_nil]; rfl) ?_
        with_reducible refine (app_val W2 w7 v7 y7 c.z.f2 HA7.out (by omega) HN1.out HN2.out).mono ?_
        rintro e w8 ⟨v8, rfl, ha8, hk8⟩
        refine ⟨_, rfl, ?_⟩
        rw [← HQ8.out] at ha8
        have HA8 := Aside0.mk ha8
        have HX8 := Aside0.mk (Stay.block HA7.out hk8.kept HX7.out (by decide))
        clear ha8 hk8
        refine hK.out _ _ ⟨(blk_cell HX8.out 2).trans rfl, (blk_cell HX8.out 3).trans rfl, (blk_cell HX8.out 4).trans rfl, (blk_cell HX8.out 5).trans rfl, (blk_cell HX8.out 6).trans rfl, (blk_cell HX8.out 7).trans rfl⟩ (fun hHeld => ?_)
        clear hK K
        refine norm_ (a' := ?_) ?_ ?_
        rotate_left
        · show Act.put _ (some 40) _ = _
          simp only [Act.put, List.setIfInBounds_toArray, List.set_cons_zero, List.set_cons_succ, i64_w, i32_w]
          rfl
        refine one_ (i := 10) (N := some 44) #[true, true, true, true, true, true, true, true, true, true, true, false] rfl rfl (by kernel_rfl) (by decide) (fun K hK => ?_)
        refine goes_ Tryz.func69 (by kernel_rfl) rfl #[v8, .agg #[.int .i64 c.z.f3.f0, .int .i64 c.z.f3.f1, .string c.z.f3.f2]] (by rfl) rfl rfl (by simp only [List.map_toArray, List.map_cons, List.map_nil]; rfl) ?_
        with_reducible refine (app_val W2 w8 v8 y8 c.z.f3 HA8.out (by omega) HX1.out HX2.out).mono ?_
        rintro e w9 ⟨v9, rfl, ha9, hk9⟩
        refine ⟨_, rfl, ?_⟩
        rw [← HQ9.out] at ha9
        have HA9 := Aside0.mk ha9
        have HX9 := Aside0.mk (Stay.block HA8.out hk9.kept HX8.out (by decide))
        clear ha9 hk9
        refine hK.out _ _ ⟨(blk_cell HX9.out 2).trans rfl, (blk_cell HX9.out 3).trans rfl, (blk_cell HX9.out 4).trans rfl, (blk_cell HX9.out 5).trans rfl, (blk_cell HX9.out 6).trans rfl, (blk_cell HX9.out 7).trans rfl⟩ (fun hHeld => ?_)
        clear hK K
        refine norm_ (a' := ?_) ?_ ?_
        rotate_left
        · show Act.put _ (some 44) _ = _
          simp only [Act.put, List.setIfInBounds_toArray, List.set_cons_zero, List.set_cons_succ, i64_w, i32_w]
          rfl
        refine pure_ (i := 11) (N := some 3) (v := ?_) (a' := ?_) #[true, true, true, true, true, true, true, true, true, true, true, true] rfl rfl (by kernel_rfl) (fun _ _ _ h => h) (Or.inl ⟨by rfl, ?_⟩) ?_ ?_
        rotate_left
        · intro w'
          go_simp
          with_reducible rfl
        rotate_left
        · simp only [Act.put, List.setIfInBounds_toArray, List.set_cons_zero, List.set_cons_succ, i64_w, i32_w]
          rfl
        refine done_ (by kernel_rfl) ?_
        have HC9 := Aside0.mk (chunk_C HX9.out HCO.out.h)
        go_wp2_with ((with_reducible refine gate_builtin (b := .append) (xs := #[.tmp 48, .tmp 50]) rfl ?_); at_builtin; refine app_rows rfl (.tmp 48) (.tmp 50) rfl v9 y9 c.h (some ⟨wr.heap.size, 8, none⟩) 32 32 rfl rfl HA9.out HC9.out (by omega) ?_; intro va wa haa hka; have HAA := Aside0.mk haa; clear haa hka)
        go_roundw
        case rel => exact ⟨i + 1, y9 ++ c.h, by omega, by go_num, HAA, ⟨by rw [← HE2.out, HQ9.out, HQ8.out, HQ7.out, HQ5.out, colF, zoneF, HSM.out, if_pos rfl]; simp only [List.append_assoc, List.cons_append, List.nil_append]⟩⟩
        case measure => simp [intOf]; omega
    · obtain rfl : i = x.cols.length := by omega
      have he := HE.out
      rw [List.drop_eq_nil_of_le (Nat.le_refl _), colsF, List.append_nil] at he
      subst he
      go_wp2
      go_ret
      exact ⟨_, rfl, Kd.R_lower HY.out.own HBW.out.size, HBW.out.trans (HY.out.bel.mono HBW.out.size)⟩
end Go.Proofs.YtjmhiklmlgbifaaGreatDoor.PMan
end

/- Texts, put into one. -/
import Derived.Test.YtjmhiklmlgbifaaGreatDoorPT34
import Derived.Test.YtjmhiklmlgbifaaGreatDoorPTW
set_option linter.unusedVariables false
set_option linter.unusedSimpArgs false
open Go Go.RowKit Go.Proofs.YtjmhiklmlgbifaaGreatDoorW.PrintWords Go.Proofs.YtjmhiklmlgbifaaGreatDoorW.PrintLast Go.Proofs.YtjmhiklmlgbifaaGreatDoorW.PrintMore
namespace Go.Proofs.YtjmhiklmlgbifaaGreatDoor.PMan
section
set_option maxHeartbeats 3200000 in
set_option maxRecDepth 100000 in
theorem refSound_calls (x : Hd) (A : Option Addr) (c0 : Nat) (A1 : Option Addr) (c1 : Nat) (s : List S123) (w : World) (hd : x.dead.length = 32) (hc : x.cols.length ≤ c0) (hr : kCH.C w A x.cols.length x.cols) (hr1 : Kd.C k123 w A1 s.length s) (hc1 : s.length ≤ c1) :
  Calls Tryz.prog 50 #[.agg (hdCells x A c0).toArray, .slice A1 s.length c1] w fun e w' => e = .returned (.bool (soundP x s)) ∧ Below w.heap.size w w' := by
 have i0 : (hdCells x A c0).toArray[0]? = some (.int .i64 x.rows) := rfl
 have i1 : (hdCells x A c0).toArray[1]? = some (.int .i64 x.live) := rfl
 have i34 : (hdCells x A c0).toArray[34]? = some (.slice A x.cols.length c0) := by
  rw [List.getElem?_toArray]
  unfold hdCells hashCells
  rw [List.getElem?_cons_succ, List.getElem?_cons_succ, List.getElem?_append_right (by rw [List.length_map]; omega), List.length_map, hd]
  rfl
 generalize (hdCells x A c0).toArray = cc at *
 have HR := am hr
 have HR1 := am hr1
 have hb : x.cols.length ≤ 9223372036854775807 := hr.2.1
 clear hr hr1
 have hba : Below w.heap.size w (w.alloc (.cells cc 64)) := below_alloc (Below.refl _ _) _
 by_cases g1 : x.rows < 1
 ·go_enter Tryz.func50, Tryz.ntmps50
  go_wp2
  go_ret
  exact ⟨by unfold soundP; rw [if_pos (by omega)]; rfl, hba⟩
 by_cases g2 : x.rows > 65536
 ·go_enter Tryz.func50, Tryz.ntmps50
  go_wp2
  go_ret
  exact ⟨by unfold soundP; rw [if_neg (by omega), if_pos (by omega)]; rfl, hba⟩
 by_cases g3 : x.live < 0
 ·go_enter Tryz.func50, Tryz.ntmps50
  go_wp2
  go_ret
  exact ⟨by unfold soundP; rw [if_neg (by omega), if_neg (by omega), if_pos (by omega)]; rfl, hba⟩
 by_cases g4 : x.live > x.rows
 ·go_enter Tryz.func50, Tryz.ntmps50
  go_wp2
  go_ret
  exact ⟨by unfold soundP; rw [if_neg (by omega), if_neg (by omega), if_neg (by omega), if_pos (by omega)]; rfl, hba⟩
 by_cases g5 : ¬ (x.cols.length : Int) = (s.length : Int)
 ·have g5' : ((x.cols.length : Int) != (s.length : Int)) = true := by simpa using g5
  go_enter Tryz.func50, Tryz.ntmps50
  go_wp2
  go_ret
  exact ⟨by unfold soundP; rw [if_neg (by omega), if_neg (by omega), if_neg (by omega), if_neg (by omega), if_neg (by simp_all)]; rfl, hba⟩
 have g5' : ((x.cols.length : Int) != (s.length : Int)) = false := by simpa using g5
 have g5 := Classical.not_not.1 g5
 have hP : soundP x s = colsP x.rows x.cols s := by unfold soundP; rw [if_neg (by omega), if_neg (by omega), if_neg (by omega), if_neg (by omega), if_pos g5]
 rw [hP]
 have hl : x.cols.length = s.length := by omega
 have I34 := am i34
 have I0 := am i0
 go_enter Tryz.func50, Tryz.ntmps50
 go_wp2
 clear i0 i1 i34
 go_loopw [5] (fun v5 w' => ∃ j : Nat, j ≤ s.length ∧ v5 = .int .i64 j ∧ Aside0 (colsP x.rows (x.cols.drop j) (s.drop j) = colsP x.rows x.cols s) ∧ Aside0 (Below w.heap.size w w') ∧ Aside0 (w'.heap[w.heap.size]? = some (.cells cc 64 (0, 0)))) (fun i _ => s.length - (intOf i).toNat)
 case atStart => exact ⟨0, Nat.zero_le _, rfl, ⟨rfl⟩, ⟨hba⟩, ⟨heap_alloc_new w _⟩⟩
 case round =>
  obtain ⟨j, hj, rfl, HX, HB, HH⟩ := hrel
  by_cases hlt : j < s.length
  ·obtain ⟨b, o, cs, e1, hK, hcl, hm⟩ := C_mid (Kd.C_below HR.out HB.out) zCH j (by omega) (by decide)
   obtain ⟨bd, e2, y0, y1, y2⟩ := at_T123 (Kd.C_below HR1.out HB.out) (j : Int) (by omega) (by omega)
   cases e1
   cases e2
   have hs := colsP_at x.rows x.cols s j zCH (by omega) hlt
   rw [HX.out] at hs
   generalize x.cols.getD j zCH = c at *
   generalize rd_T123 s (j : Int) = s0 at *
   obtain ⟨rfl, hh⟩ := kCH_open hK
   rw [show ((j : Int)).toNat = j from by omega] at y0 y1 y2
   rw [kCH_sz] at hm hcl
   have HS := am hs
   clear hs hK hcl y2 hh
   have z0 : wr.drew.cell? ⟨b, o + j * 40, none⟩ = some (.int .i64 c.z.f0) := hm 0 _ rfl
   have z1 : wr.drew.cell? ⟨b, o + j * 40 + 1, none⟩ = some (.bool c.z.f1) := hm 1 _ rfl
   have z2 : wr.drew.cell? ⟨b, o + j * 40 + 2, none⟩ = some (.int .i64 c.z.f2.f0) := hm 2 _ rfl
   have z3 : wr.drew.cell? ⟨b, o + j * 40 + 3, none⟩ = some (.int .i64 c.z.f2.f1) := hm 3 _ rfl
   have z4 : wr.drew.cell? ⟨b, o + j * 40 + 4, none⟩ = some (.string c.z.f2.f2) := hm 4 _ rfl
   have z5 : wr.drew.cell? ⟨b, o + j * 40 + 5, none⟩ = some (.int .i64 c.z.f3.f0) := hm 5 _ rfl
   have z6 : wr.drew.cell? ⟨b, o + j * 40 + 6, none⟩ = some (.int .i64 c.z.f3.f1) := hm 6 _ rfl
   have z7 : wr.drew.cell? ⟨b, o + j * 40 + 7, none⟩ = some (.string c.z.f3.f2) := hm 7 _ rfl
   have r0 : wr.drew.cell? ⟨w.heap.size, 0, none⟩ = some (.int .i64 x.rows) := (blk_cell HH.out 0).trans I0.out
   have r34 : wr.drew.cell? ⟨w.heap.size, 34, none⟩ = some (.slice (some ⟨b, o, none⟩) x.cols.length c0) := (blk_cell HH.out 34).trans I34.out
   have y0 : wr.drew.cell? (bd.add (j * 3)) = some (.int .i64 s0.f0) := y0
   have y1 : wr.drew.cell? ⟨(bd.add (j * 3)).block, (bd.add (j * 3)).off + 1, none⟩ = some (.bool s0.f1) := y1
   have HBD := am (below_drew HB.out)
   have HHD : Aside0 (wr.drew.heap[w.heap.size]? = some (.cells cc 64 (0, 0))) := HH
   clear hm
   have HE := HS.out
   go_wp2_with fail
   cases hzn : zoneP c.z x.rows s0.f0 with
   | false =>
    have HST := am hzn
    rw [hzn, if_neg (by decide)] at HE
    have HE2 := am HE
    clear HE hzn
    refine start_ (n := 33) (S := fun w' => w'.cell? ⟨w.heap.size, 0, none⟩ = some (.int .i64 x.rows) ∧ w'.cell? ⟨w.heap.size, 34, none⟩ = some (.slice (some ⟨b, o, none⟩) x.cols.length c0) ∧ w'.cell? ⟨b, o + j * 40, none⟩ = some (.int .i64 c.z.f0) ∧ w'.cell? ⟨b, o + j * 40 + 1, none⟩ = some (.bool c.z.f1) ∧ w'.cell? ⟨b, o + j * 40 + 2, none⟩ = some (.int .i64 c.z.f2.f0) ∧ w'.cell? ⟨b, o + j * 40 + 3, none⟩ = some (.int .i64 c.z.f2.f1) ∧ w'.cell? ⟨b, o + j * 40 + 4, none⟩ = some (.string c.z.f2.f2) ∧ w'.cell? ⟨b, o + j * 40 + 5, none⟩ = some (.int .i64 c.z.f3.f0) ∧ w'.cell? ⟨b, o + j * 40 + 6, none⟩ = some (.int .i64 c.z.f3.f1) ∧ w'.cell? ⟨b, o + j * 40 + 7, none⟩ = some (.string c.z.f3.f2) ∧ w'.cell? (bd.add (j * 3)) = some (.int .i64 s0.f0) ∧ w'.cell? ⟨(bd.add (j * 3)).block, (bd.add (j * 3)).off + 1, none⟩ = some (.bool s0.f1)) (ds := []) #[false, false, false, false, false, false, false, false, false, false, false, false, false, false, false, false, false, false, false, false, false, false, false, false, false, false, false, false, false, false, false, false, false] (by kernel_rfl) rfl rfl ⟨r0, r34, z0, z1, z2, z3, z4, z5, z6, z7, y0, y1⟩ (fun hHeld => ?_)
    generalize wr.drew = W2 at *
    refine pu 0 (some 40) ?_ ?_ ?_ ?_ ?_
    rotate_left 2
    ·intro w'
     go_simp
     with_reducible rfl
    ·simp only [Act.put, sA1, sA2, sA3, i64_w, i32_w]
     rfl
    refine pu 2 (some 42) ?_ ?_ ?_ ?_ ?_
    rotate_left 2
    ·intro w'
     go_simp
     with_reducible rfl
    ·simp only [Act.put, sA1, sA2, sA3, i64_w, i32_w]
     rfl
    refine pu 6 (some 46) ?_ ?_ ?_ ?_ ?_
    rotate_left 2
    ·intro w'
     go_simp
     with_reducible rfl
    ·simp only [Act.put, sA1, sA2, sA3, i64_w, i32_w]
     rfl
    refine pu 8 (some 48) ?_ ?_ ?_ ?_ ?_
    rotate_left 2
    ·intro w'
     go_simp
     with_reducible rfl
    ·simp only [Act.put, sA1, sA2, sA3, i64_w, i32_w]
     rfl
    refine pu 9 (some 49) ?_ ?_ ?_ ?_ ?_
    rotate_left 2
    ·intro w'
     go_simp
     with_reducible rfl
    ·simp only [Act.put, sA1, sA2, sA3, i64_w, i32_w]
     rfl
    refine pu 10 (some 50) ?_ ?_ ?_ ?_ ?_
    rotate_left 2
    ·intro w'
     go_simp
     with_reducible rfl
    ·simp only [Act.put, sA1, sA2, sA3, i64_w, i32_w]
     rfl
    refine pu 11 (some 51) ?_ ?_ ?_ ?_ ?_
    rotate_left 2
    ·intro w'
     go_simp
     with_reducible rfl
    ·simp only [Act.put, sA1, sA2, sA3, i64_w, i32_w]
     rfl
    refine tk 1 (some 41) ?_ ?_ hHeld ?_ ?_ ?_
    rotate_left 2
    ·rintro w' ⟨s0, s1, s2, s3, s4, s5, s6, s7, s8, s9, s10, s11⟩
     go_simp
     with_reducible rfl
    ·simp only [Act.put, sA1, sA2, sA3, i64_w, i32_w]
     rfl
    refine pu 3 (some 43) ?_ ?_ ?_ ?_ ?_
    rotate_left 2
    ·intro w'
     go_simp
     with_reducible rfl
    ·simp only [Act.put, sA1, sA2, sA3, i64_w, i32_w]
     rfl
    refine pu 4 (some 44) ?_ ?_ ?_ ?_ ?_
    rotate_left 2
    ·intro w'
     go_simp
     with_reducible rfl
    ·simp only [Act.put, sA1, sA2, sA3, i64_w, i32_w]
     rfl
    refine tk 5 (some 45) ?_ ?_ hHeld ?_ ?_ ?_
    rotate_left 2
    ·rintro w' ⟨s0, s1, s2, s3, s4, s5, s6, s7, s8, s9, s10, s11⟩
     go_simp
     with_reducible rfl
    ·simp only [Act.put, sA1, sA2, sA3, i64_w, i32_w]
     rfl
    refine tk 7 (some 47) ?_ ?_ hHeld ?_ ?_ ?_
    rotate_left 2
    ·rintro w' ⟨s0, s1, s2, s3, s4, s5, s6, s7, s8, s9, s10, s11⟩
     go_simp
     with_reducible rfl
    ·simp only [Act.put, sA1, sA2, sA3, i64_w, i32_w]
     rfl
    refine tk 12 (some 52) ?_ ?_ hHeld ?_ ?_ ?_
    rotate_left 2
    ·rintro w' ⟨s0, s1, s2, s3, s4, s5, s6, s7, s8, s9, s10, s11⟩
     go_simp
     with_reducible rfl
    ·simp only [Act.put, sA1, sA2, sA3, i64_w, i32_w]
     rfl
    refine on (i := 13) (N := some 53) rfl rfl (by kernel_rfl) (by decide) (fun K hK => ?_)
    refine goes_ Tryz.func83 (by kernel_rfl) rfl #[.agg #[.int .i64 c.z.f0, .bool c.z.f1, .int .i64 c.z.f2.f0, .int .i64 c.z.f2.f1, .string c.z.f2.f2, .int .i64 c.z.f3.f0, .int .i64 c.z.f3.f1, .string c.z.f3.f2], .int .i64 x.rows, .int .i64 s0.f0] (by rfl) rfl rfl (by simp only [List.map_toArray, List.map_cons, List.map_nil]; rfl) ?_
    with_reducible refine (refZone_calls c.z x.rows s0.f0 W2).mono ?_
    rintro e w3 ⟨rfl, hb3⟩
    refine ⟨_, rfl, ?_⟩
    rw [HST.out]
    have HB3 := am hb3
    clear hb3
    refine hK.out _ _ ⟨pw_cell_below HB3.out r0, pw_cell_below HB3.out r34, pw_cell_below HB3.out z0, pw_cell_below HB3.out z1, pw_cell_below HB3.out z2, pw_cell_below HB3.out z3, pw_cell_below HB3.out z4, pw_cell_below HB3.out z5, pw_cell_below HB3.out z6, pw_cell_below HB3.out z7, pw_cell_below HB3.out y0, pw_cell_below HB3.out y1⟩ (fun hHeld => ?_)
    clear hK K
    refine norm_ (a' := ?_) ?_ ?_
    rotate_left
    ·show Act.put _ (some 53) _ = _
     simp only [Act.put, sA1, sA2, sA3, i64_w, i32_w]
     rfl
    refine pu 14 (some 54) ?_ ?_ ?_ ?_ ?_
    rotate_left 2
    ·intro w'
     go_simp
     with_reducible rfl
    ·simp only [Act.put, sA1, sA2, sA3, i64_w, i32_w]
     rfl
    refine pu 15 (some 55) ?_ ?_ ?_ ?_ ?_
    rotate_left 2
    ·intro w'
     go_simp
     with_reducible rfl
    ·simp only [Act.put, sA1, sA2, sA3, i64_w, i32_w]
     rfl
    refine pure_ (i := 16) (N := some 56) (v := undef) (a' := ?_) #[true, true, true, true, true, true, true, true, true, true, true, true, true, true, true, true, true, false, false, false, false, false, false, false, false, false, false, false, false, false, false, false, false] rfl rfl (by kernel_rfl) (fun _ _ _ h => h) (Or.inr ⟨by rfl, rfl⟩) ?_ ?_
    rotate_left
    ·simp only [Act.put, sA1, sA2, sA3, i64_w, i32_w]
     rfl
    refine pure_ (i := 17) (N := some 57) (v := undef) (a' := ?_) #[true, true, true, true, true, true, true, true, true, true, true, true, true, true, true, true, true, true, false, false, false, false, false, false, false, false, false, false, false, false, false, false, false] rfl rfl (by kernel_rfl) (fun _ _ _ h => h) (Or.inr ⟨by rfl, rfl⟩) ?_ ?_
    rotate_left
    ·simp only [Act.put, sA1, sA2, sA3, i64_w, i32_w]
     rfl
    refine pure_ (i := 18) (N := some 58) (v := undef) (a' := ?_) #[true, true, true, true, true, true, true, true, true, true, true, true, true, true, true, true, true, true, true, false, false, false, false, false, false, false, false, false, false, false, false, false, false] rfl rfl (by kernel_rfl) (fun _ _ _ h => h) (Or.inr ⟨by rfl, rfl⟩) ?_ ?_
    rotate_left
    ·simp only [Act.put, sA1, sA2, sA3, i64_w, i32_w]
     rfl
    refine pure_ (i := 19) (N := some 59) (v := undef) (a' := ?_) #[true, true, true, true, true, true, true, true, true, true, true, true, true, true, true, true, true, true, true, true, false, false, false, false, false, false, false, false, false, false, false, false, false] rfl rfl (by kernel_rfl) (fun _ _ _ h => h) (Or.inr ⟨by rfl, rfl⟩) ?_ ?_
    rotate_left
    ·simp only [Act.put, sA1, sA2, sA3, i64_w, i32_w]
     rfl
    refine pure_ (i := 20) (N := some 60) (v := undef) (a' := ?_) #[true, true, true, true, true, true, true, true, true, true, true, true, true, true, true, true, true, true, true, true, true, false, false, false, false, false, false, false, false, false, false, false, false] rfl rfl (by kernel_rfl) (fun _ _ _ h => h) (Or.inr ⟨by rfl, rfl⟩) ?_ ?_
    rotate_left
    ·simp only [Act.put, sA1, sA2, sA3, i64_w, i32_w]
     rfl
    refine pure_ (i := 21) (N := some 61) (v := undef) (a' := ?_) #[true, true, true, true, true, true, true, true, true, true, true, true, true, true, true, true, true, true, true, true, true, true, false, false, false, false, false, false, false, false, false, false, false] rfl rfl (by kernel_rfl) (fun _ _ _ h => h) (Or.inr ⟨by rfl, rfl⟩) ?_ ?_
    rotate_left
    ·simp only [Act.put, sA1, sA2, sA3, i64_w, i32_w]
     rfl
    refine pure_ (i := 22) (N := some 62) (v := undef) (a' := ?_) #[true, true, true, true, true, true, true, true, true, true, true, true, true, true, true, true, true, true, true, true, true, true, true, false, false, false, false, false, false, false, false, false, false] rfl rfl (by kernel_rfl) (fun _ _ _ h => h) (Or.inr ⟨by rfl, rfl⟩) ?_ ?_
    rotate_left
    ·simp only [Act.put, sA1, sA2, sA3, i64_w, i32_w]
     rfl
    refine pure_ (i := 23) (N := some 63) (v := undef) (a' := ?_) #[true, true, true, true, true, true, true, true, true, true, true, true, true, true, true, true, true, true, true, true, true, true, true, true, false, false, false, false, false, false, false, false, false] rfl rfl (by kernel_rfl) (fun _ _ _ h => h) (Or.inr ⟨by rfl, rfl⟩) ?_ ?_
    rotate_left
    ·simp only [Act.put, sA1, sA2, sA3, i64_w, i32_w]
     rfl
    refine pure_ (i := 24) (N := some 64) (v := undef) (a' := ?_) #[true, true, true, true, true, true, true, true, true, true, true, true, true, true, true, true, true, true, true, true, true, true, true, true, true, false, false, false, false, false, false, false, false] rfl rfl (by kernel_rfl) (fun _ _ _ h => h) (Or.inr ⟨by rfl, rfl⟩) ?_ ?_
    rotate_left
    ·simp only [Act.put, sA1, sA2, sA3, i64_w, i32_w]
     rfl
    refine pure_ (i := 25) (N := some 65) (v := undef) (a' := ?_) #[true, true, true, true, true, true, true, true, true, true, true, true, true, true, true, true, true, true, true, true, true, true, true, true, true, true, false, false, false, false, false, false, false] rfl rfl (by kernel_rfl) (fun _ _ _ h => h) (Or.inr ⟨by rfl, rfl⟩) ?_ ?_
    rotate_left
    ·simp only [Act.put, sA1, sA2, sA3, i64_w, i32_w]
     rfl
    refine pure_ (i := 26) (N := some 66) (v := undef) (a' := ?_) #[true, true, true, true, true, true, true, true, true, true, true, true, true, true, true, true, true, true, true, true, true, true, true, true, true, true, true, false, false, false, false, false, false] rfl rfl (by kernel_rfl) (fun _ _ _ h => h) (Or.inr ⟨by rfl, rfl⟩) ?_ ?_
    rotate_left
    ·simp only [Act.put, sA1, sA2, sA3, i64_w, i32_w]
     rfl
    refine pure_ (i := 27) (N := some 67) (v := undef) (a' := ?_) #[true, true, true, true, true, true, true, true, true, true, true, true, true, true, true, true, true, true, true, true, true, true, true, true, true, true, true, true, false, false, false, false, false] rfl rfl (by kernel_rfl) (fun _ _ _ h => h) (Or.inr ⟨by rfl, rfl⟩) ?_ ?_
    rotate_left
    ·simp only [Act.put, sA1, sA2, sA3, i64_w, i32_w]
     rfl
    refine pure_ (i := 28) (N := some 68) (v := undef) (a' := ?_) #[true, true, true, true, true, true, true, true, true, true, true, true, true, true, true, true, true, true, true, true, true, true, true, true, true, true, true, true, true, false, false, false, false] rfl rfl (by kernel_rfl) (fun _ _ _ h => h) (Or.inr ⟨by rfl, rfl⟩) ?_ ?_
    rotate_left
    ·simp only [Act.put, sA1, sA2, sA3, i64_w, i32_w]
     rfl
    refine pure_ (i := 29) (N := some 69) (v := undef) (a' := ?_) #[true, true, true, true, true, true, true, true, true, true, true, true, true, true, true, true, true, true, true, true, true, true, true, true, true, true, true, true, true, true, false, false, false] rfl rfl (by kernel_rfl) (fun _ _ _ h => h) (Or.inr ⟨by rfl, rfl⟩) ?_ ?_
    rotate_left
    ·simp only [Act.put, sA1, sA2, sA3, i64_w, i32_w]
     rfl
    refine pure_ (i := 30) (N := some 70) (v := undef) (a' := ?_) #[true, true, true, true, true, true, true, true, true, true, true, true, true, true, true, true, true, true, true, true, true, true, true, true, true, true, true, true, true, true, true, false, false] rfl rfl (by kernel_rfl) (fun _ _ _ h => h) (Or.inr ⟨by rfl, rfl⟩) ?_ ?_
    rotate_left
    ·simp only [Act.put, sA1, sA2, sA3, i64_w, i32_w]
     rfl
    refine pure_ (i := 31) (N := some 71) (v := undef) (a' := ?_) #[true, true, true, true, true, true, true, true, true, true, true, true, true, true, true, true, true, true, true, true, true, true, true, true, true, true, true, true, true, true, true, true, false] rfl rfl (by kernel_rfl) (fun _ _ _ h => h) (Or.inr ⟨by rfl, rfl⟩) ?_ ?_
    rotate_left
    ·simp only [Act.put, sA1, sA2, sA3, i64_w, i32_w]
     rfl
    refine pu 32 (some 72) ?_ ?_ ?_ ?_ ?_
    rotate_left 2
    ·intro w'
     go_simp
     with_reducible rfl
    ·simp only [Act.put, sA1, sA2, sA3, i64_w, i32_w]
     rfl
    refine done_ (by kernel_rfl) ?_
    have HB5 := am (below_call HBD.out HB3.out)
    go_wp2
    go_ret
    exact ⟨by rw [← HE2.out]; rfl, HB5.out⟩
   | true =>
    have HST := am hzn
    rw [hzn, if_pos rfl] at HE
    clear hzn
    by_cases hn : c.z.f0 > 0
    ·rw [if_pos hn] at HE
     have hn' : decide (c.z.f0 > 0) = true := decide_eq_true hn
     cases hnu : s0.f1 with
     | false =>
      rw [hnu, if_neg (by decide)] at HE
      rw [hnu] at y1
      have HE2 := am HE
      clear HE hnu
      refine start_ (n := 33) (S := fun w' => w'.cell? ⟨w.heap.size, 0, none⟩ = some (.int .i64 x.rows) ∧ w'.cell? ⟨w.heap.size, 34, none⟩ = some (.slice (some ⟨b, o, none⟩) x.cols.length c0) ∧ w'.cell? ⟨b, o + j * 40, none⟩ = some (.int .i64 c.z.f0) ∧ w'.cell? ⟨b, o + j * 40 + 1, none⟩ = some (.bool c.z.f1) ∧ w'.cell? ⟨b, o + j * 40 + 2, none⟩ = some (.int .i64 c.z.f2.f0) ∧ w'.cell? ⟨b, o + j * 40 + 3, none⟩ = some (.int .i64 c.z.f2.f1) ∧ w'.cell? ⟨b, o + j * 40 + 4, none⟩ = some (.string c.z.f2.f2) ∧ w'.cell? ⟨b, o + j * 40 + 5, none⟩ = some (.int .i64 c.z.f3.f0) ∧ w'.cell? ⟨b, o + j * 40 + 6, none⟩ = some (.int .i64 c.z.f3.f1) ∧ w'.cell? ⟨b, o + j * 40 + 7, none⟩ = some (.string c.z.f3.f2) ∧ w'.cell? (bd.add (j * 3)) = some (.int .i64 s0.f0) ∧ w'.cell? ⟨(bd.add (j * 3)).block, (bd.add (j * 3)).off + 1, none⟩ = some (.bool false)) (ds := []) #[false, false, false, false, false, false, false, false, false, false, false, false, false, false, false, false, false, false, false, false, false, false, false, false, false, false, false, false, false, false, false, false, false] (by kernel_rfl) rfl rfl ⟨r0, r34, z0, z1, z2, z3, z4, z5, z6, z7, y0, y1⟩ (fun hHeld => ?_)
      generalize wr.drew = W2 at *
      refine pu 0 (some 40) ?_ ?_ ?_ ?_ ?_
      rotate_left 2
      ·intro w'
       go_simp
       with_reducible rfl
      ·simp only [Act.put, sA1, sA2, sA3, i64_w, i32_w]
       rfl
      refine pu 2 (some 42) ?_ ?_ ?_ ?_ ?_
      rotate_left 2
      ·intro w'
       go_simp
       with_reducible rfl
      ·simp only [Act.put, sA1, sA2, sA3, i64_w, i32_w]
       rfl
      refine pu 6 (some 46) ?_ ?_ ?_ ?_ ?_
      rotate_left 2
      ·intro w'
       go_simp
       with_reducible rfl
      ·simp only [Act.put, sA1, sA2, sA3, i64_w, i32_w]
       rfl
      refine pu 8 (some 48) ?_ ?_ ?_ ?_ ?_
      rotate_left 2
      ·intro w'
       go_simp
       with_reducible rfl
      ·simp only [Act.put, sA1, sA2, sA3, i64_w, i32_w]
       rfl
      refine pu 9 (some 49) ?_ ?_ ?_ ?_ ?_
      rotate_left 2
      ·intro w'
       go_simp
       with_reducible rfl
      ·simp only [Act.put, sA1, sA2, sA3, i64_w, i32_w]
       rfl
      refine pu 10 (some 50) ?_ ?_ ?_ ?_ ?_
      rotate_left 2
      ·intro w'
       go_simp
       with_reducible rfl
      ·simp only [Act.put, sA1, sA2, sA3, i64_w, i32_w]
       rfl
      refine pu 11 (some 51) ?_ ?_ ?_ ?_ ?_
      rotate_left 2
      ·intro w'
       go_simp
       with_reducible rfl
      ·simp only [Act.put, sA1, sA2, sA3, i64_w, i32_w]
       rfl
      refine tk 1 (some 41) ?_ ?_ hHeld ?_ ?_ ?_
      rotate_left 2
      ·rintro w' ⟨s0, s1, s2, s3, s4, s5, s6, s7, s8, s9, s10, s11⟩
       go_simp
       with_reducible rfl
      ·simp only [Act.put, sA1, sA2, sA3, i64_w, i32_w]
       rfl
      refine pu 3 (some 43) ?_ ?_ ?_ ?_ ?_
      rotate_left 2
      ·intro w'
       go_simp
       with_reducible rfl
      ·simp only [Act.put, sA1, sA2, sA3, i64_w, i32_w]
       rfl
      refine pu 4 (some 44) ?_ ?_ ?_ ?_ ?_
      rotate_left 2
      ·intro w'
       go_simp
       with_reducible rfl
      ·simp only [Act.put, sA1, sA2, sA3, i64_w, i32_w]
       rfl
      refine tk 5 (some 45) ?_ ?_ hHeld ?_ ?_ ?_
      rotate_left 2
      ·rintro w' ⟨s0, s1, s2, s3, s4, s5, s6, s7, s8, s9, s10, s11⟩
       go_simp
       with_reducible rfl
      ·simp only [Act.put, sA1, sA2, sA3, i64_w, i32_w]
       rfl
      refine tk 7 (some 47) ?_ ?_ hHeld ?_ ?_ ?_
      rotate_left 2
      ·rintro w' ⟨s0, s1, s2, s3, s4, s5, s6, s7, s8, s9, s10, s11⟩
       go_simp
       with_reducible rfl
      ·simp only [Act.put, sA1, sA2, sA3, i64_w, i32_w]
       rfl
      refine tk 12 (some 52) ?_ ?_ hHeld ?_ ?_ ?_
      rotate_left 2
      ·rintro w' ⟨s0, s1, s2, s3, s4, s5, s6, s7, s8, s9, s10, s11⟩
       go_simp
       with_reducible rfl
      ·simp only [Act.put, sA1, sA2, sA3, i64_w, i32_w]
       rfl
      refine on (i := 13) (N := some 53) rfl rfl (by kernel_rfl) (by decide) (fun K hK => ?_)
      refine goes_ Tryz.func83 (by kernel_rfl) rfl #[.agg #[.int .i64 c.z.f0, .bool c.z.f1, .int .i64 c.z.f2.f0, .int .i64 c.z.f2.f1, .string c.z.f2.f2, .int .i64 c.z.f3.f0, .int .i64 c.z.f3.f1, .string c.z.f3.f2], .int .i64 x.rows, .int .i64 s0.f0] (by rfl) rfl rfl (by simp only [List.map_toArray, List.map_cons, List.map_nil]; rfl) ?_
      with_reducible refine (refZone_calls c.z x.rows s0.f0 W2).mono ?_
      rintro e w3 ⟨rfl, hb3⟩
      refine ⟨_, rfl, ?_⟩
      rw [HST.out]
      have HB3 := am hb3
      clear hb3
      refine hK.out _ _ ⟨pw_cell_below HB3.out r0, pw_cell_below HB3.out r34, pw_cell_below HB3.out z0, pw_cell_below HB3.out z1, pw_cell_below HB3.out z2, pw_cell_below HB3.out z3, pw_cell_below HB3.out z4, pw_cell_below HB3.out z5, pw_cell_below HB3.out z6, pw_cell_below HB3.out z7, pw_cell_below HB3.out y0, pw_cell_below HB3.out y1⟩ (fun hHeld => ?_)
      clear hK K
      refine norm_ (a' := ?_) ?_ ?_
      rotate_left
      ·show Act.put _ (some 53) _ = _
       simp only [Act.put, sA1, sA2, sA3, i64_w, i32_w]
       rfl
      refine pu 14 (some 54) ?_ ?_ ?_ ?_ ?_
      rotate_left 2
      ·intro w'
       go_simp
       with_reducible rfl
      ·simp only [Act.put, sA1, sA2, sA3, i64_w, i32_w]
       rfl
      refine pu 15 (some 55) ?_ ?_ ?_ ?_ ?_
      rotate_left 2
      ·intro w'
       go_simp
       with_reducible rfl
      ·simp only [Act.put, sA1, sA2, sA3, i64_w, i32_w]
       rfl
      refine pu 16 (some 56) ?_ ?_ ?_ ?_ ?_
      rotate_left 2
      ·intro w'
       go_simp
       with_reducible rfl
      ·simp only [Act.put, sA1, sA2, sA3, i64_w, i32_w]
       rfl
      refine pu 18 (some 58) ?_ ?_ ?_ ?_ ?_
      rotate_left 2
      ·intro w'
       go_simp
       with_reducible rfl
      ·simp only [Act.put, sA1, sA2, sA3, i64_w, i32_w]
       rfl
      refine tk 17 (some 57) ?_ ?_ hHeld ?_ ?_ ?_
      rotate_left 2
      ·rintro w' ⟨s0, s1, s2, s3, s4, s5, s6, s7, s8, s9, s10, s11⟩
       go_simp
       with_reducible rfl
      ·simp only [Act.put, sA1, sA2, sA3, i64_w, i32_w]
       rfl
      refine pu 19 (some 59) ?_ ?_ ?_ ?_ ?_
      rotate_left 2
      ·intro w'
       go_simp
       with_reducible rfl
      ·simp only [Act.put, sA1, sA2, sA3, i64_w, i32_w]
       rfl
      refine pu 20 (some 60) ?_ ?_ ?_ ?_ ?_
      rotate_left 2
      ·intro w'
       go_simp
       with_reducible rfl
      ·simp only [Act.put, sA1, sA2, sA3, i64_w, i32_w]
       rfl
      refine pu 21 (some 61) ?_ ?_ ?_ ?_ ?_
      rotate_left 2
      ·intro w'
       go_simp
       with_reducible rfl
      ·simp only [Act.put, sA1, sA2, sA3, i64_w, i32_w]
       rfl
      refine tk 22 (some 62) ?_ ?_ hHeld ?_ ?_ ?_
      rotate_left 2
      ·rintro w' ⟨s0, s1, s2, s3, s4, s5, s6, s7, s8, s9, s10, s11⟩
       go_simp
       with_reducible rfl
      ·simp only [Act.put, sA1, sA2, sA3, i64_w, i32_w]
       rfl
      refine pu 23 (some 63) ?_ ?_ ?_ ?_ ?_
      rotate_left 2
      ·intro w'
       go_simp
       with_reducible rfl
      ·simp only [Act.put, sA1, sA2, sA3, i64_w, i32_w]
       rfl
      refine pu 24 (some 64) ?_ ?_ ?_ ?_ ?_
      rotate_left 2
      ·intro w'
       go_simp
       with_reducible rfl
      ·simp only [Act.put, sA1, sA2, sA3, i64_w, i32_w]
       rfl
      refine pu 25 (some 65) ?_ ?_ ?_ ?_ ?_
      rotate_left 2
      ·intro w'
       go_simp
       with_reducible rfl
      ·simp only [Act.put, sA1, sA2, sA3, i64_w, i32_w]
       rfl
      refine pu 26 (some 66) ?_ ?_ ?_ ?_ ?_
      rotate_left 2
      ·intro w'
       go_simp
       with_reducible rfl
      ·simp only [Act.put, sA1, sA2, sA3, i64_w, i32_w]
       rfl
      refine pu 27 (some 67) ?_ ?_ ?_ ?_ ?_
      rotate_left 2
      ·intro w'
       go_simp
       with_reducible rfl
      ·simp only [Act.put, sA1, sA2, sA3, i64_w, i32_w]
       rfl
      refine pu 28 (some 68) ?_ ?_ ?_ ?_ ?_
      rotate_left 2
      ·intro w'
       go_simp
       with_reducible rfl
      ·simp only [Act.put, sA1, sA2, sA3, i64_w, i32_w]
       rfl
      refine tk 29 (some 69) ?_ ?_ hHeld ?_ ?_ ?_
      rotate_left 2
      ·rintro w' ⟨s0, s1, s2, s3, s4, s5, s6, s7, s8, s9, s10, s11⟩
       go_simp
       with_reducible rfl
      ·simp only [Act.put, sA1, sA2, sA3, i64_w, i32_w]
       rfl
      refine pu 30 (some 70) ?_ ?_ ?_ ?_ ?_
      rotate_left 2
      ·intro w'
       go_simp
       with_reducible rfl
      ·simp only [Act.put, sA1, sA2, sA3, i64_w, i32_w]
       rfl
      refine pu 31 (some 71) ?_ ?_ ?_ ?_ ?_
      rotate_left 2
      ·intro w'
       go_simp
       with_reducible rfl
      ·simp only [Act.put, sA1, sA2, sA3, i64_w, i32_w]
       rfl
      refine pu 32 (some 72) ?_ ?_ ?_ ?_ ?_
      rotate_left 2
      ·intro w'
       go_simp
       with_reducible rfl
      ·simp only [Act.put, sA1, sA2, sA3, i64_w, i32_w]
       rfl
      refine done_ (by kernel_rfl) ?_
      have HB5 := am (below_call HBD.out HB3.out)
      go_wp2
      go_ret
      exact ⟨by rw [← HE2.out]; rfl, HB5.out⟩
     | true =>
      rw [hnu, if_pos rfl] at HE
      rw [hnu] at y1
      have HE2 := am HE
      clear HE hnu
      refine start_ (n := 33) (S := fun w' => w'.cell? ⟨w.heap.size, 0, none⟩ = some (.int .i64 x.rows) ∧ w'.cell? ⟨w.heap.size, 34, none⟩ = some (.slice (some ⟨b, o, none⟩) x.cols.length c0) ∧ w'.cell? ⟨b, o + j * 40, none⟩ = some (.int .i64 c.z.f0) ∧ w'.cell? ⟨b, o + j * 40 + 1, none⟩ = some (.bool c.z.f1) ∧ w'.cell? ⟨b, o + j * 40 + 2, none⟩ = some (.int .i64 c.z.f2.f0) ∧ w'.cell? ⟨b, o + j * 40 + 3, none⟩ = some (.int .i64 c.z.f2.f1) ∧ w'.cell? ⟨b, o + j * 40 + 4, none⟩ = some (.string c.z.f2.f2) ∧ w'.cell? ⟨b, o + j * 40 + 5, none⟩ = some (.int .i64 c.z.f3.f0) ∧ w'.cell? ⟨b, o + j * 40 + 6, none⟩ = some (.int .i64 c.z.f3.f1) ∧ w'.cell? ⟨b, o + j * 40 + 7, none⟩ = some (.string c.z.f3.f2) ∧ w'.cell? (bd.add (j * 3)) = some (.int .i64 s0.f0) ∧ w'.cell? ⟨(bd.add (j * 3)).block, (bd.add (j * 3)).off + 1, none⟩ = some (.bool true)) (ds := []) #[false, false, false, false, false, false, false, false, false, false, false, false, false, false, false, false, false, false, false, false, false, false, false, false, false, false, false, false, false, false, false, false, false] (by kernel_rfl) rfl rfl ⟨r0, r34, z0, z1, z2, z3, z4, z5, z6, z7, y0, y1⟩ (fun hHeld => ?_)
      generalize wr.drew = W2 at *
      refine pu 0 (some 40) ?_ ?_ ?_ ?_ ?_
      rotate_left 2
      ·intro w'
       go_simp
       with_reducible rfl
      ·simp only [Act.put, sA1, sA2, sA3, i64_w, i32_w]
       rfl
      refine pu 2 (some 42) ?_ ?_ ?_ ?_ ?_
      rotate_left 2
      ·intro w'
       go_simp
       with_reducible rfl
      ·simp only [Act.put, sA1, sA2, sA3, i64_w, i32_w]
       rfl
      refine pu 6 (some 46) ?_ ?_ ?_ ?_ ?_
      rotate_left 2
      ·intro w'
       go_simp
       with_reducible rfl
      ·simp only [Act.put, sA1, sA2, sA3, i64_w, i32_w]
       rfl
      refine pu 8 (some 48) ?_ ?_ ?_ ?_ ?_
      rotate_left 2
      ·intro w'
       go_simp
       with_reducible rfl
      ·simp only [Act.put, sA1, sA2, sA3, i64_w, i32_w]
       rfl
      refine pu 9 (some 49) ?_ ?_ ?_ ?_ ?_
      rotate_left 2
      ·intro w'
       go_simp
       with_reducible rfl
      ·simp only [Act.put, sA1, sA2, sA3, i64_w, i32_w]
       rfl
      refine pu 10 (some 50) ?_ ?_ ?_ ?_ ?_
      rotate_left 2
      ·intro w'
       go_simp
       with_reducible rfl
      ·simp only [Act.put, sA1, sA2, sA3, i64_w, i32_w]
       rfl
      refine pu 11 (some 51) ?_ ?_ ?_ ?_ ?_
      rotate_left 2
      ·intro w'
       go_simp
       with_reducible rfl
      ·simp only [Act.put, sA1, sA2, sA3, i64_w, i32_w]
       rfl
      refine tk 1 (some 41) ?_ ?_ hHeld ?_ ?_ ?_
      rotate_left 2
      ·rintro w' ⟨s0, s1, s2, s3, s4, s5, s6, s7, s8, s9, s10, s11⟩
       go_simp
       with_reducible rfl
      ·simp only [Act.put, sA1, sA2, sA3, i64_w, i32_w]
       rfl
      refine pu 3 (some 43) ?_ ?_ ?_ ?_ ?_
      rotate_left 2
      ·intro w'
       go_simp
       with_reducible rfl
      ·simp only [Act.put, sA1, sA2, sA3, i64_w, i32_w]
       rfl
      refine pu 4 (some 44) ?_ ?_ ?_ ?_ ?_
      rotate_left 2
      ·intro w'
       go_simp
       with_reducible rfl
      ·simp only [Act.put, sA1, sA2, sA3, i64_w, i32_w]
       rfl
      refine tk 5 (some 45) ?_ ?_ hHeld ?_ ?_ ?_
      rotate_left 2
      ·rintro w' ⟨s0, s1, s2, s3, s4, s5, s6, s7, s8, s9, s10, s11⟩
       go_simp
       with_reducible rfl
      ·simp only [Act.put, sA1, sA2, sA3, i64_w, i32_w]
       rfl
      refine tk 7 (some 47) ?_ ?_ hHeld ?_ ?_ ?_
      rotate_left 2
      ·rintro w' ⟨s0, s1, s2, s3, s4, s5, s6, s7, s8, s9, s10, s11⟩
       go_simp
       with_reducible rfl
      ·simp only [Act.put, sA1, sA2, sA3, i64_w, i32_w]
       rfl
      refine tk 12 (some 52) ?_ ?_ hHeld ?_ ?_ ?_
      rotate_left 2
      ·rintro w' ⟨s0, s1, s2, s3, s4, s5, s6, s7, s8, s9, s10, s11⟩
       go_simp
       with_reducible rfl
      ·simp only [Act.put, sA1, sA2, sA3, i64_w, i32_w]
       rfl
      refine on (i := 13) (N := some 53) rfl rfl (by kernel_rfl) (by decide) (fun K hK => ?_)
      refine goes_ Tryz.func83 (by kernel_rfl) rfl #[.agg #[.int .i64 c.z.f0, .bool c.z.f1, .int .i64 c.z.f2.f0, .int .i64 c.z.f2.f1, .string c.z.f2.f2, .int .i64 c.z.f3.f0, .int .i64 c.z.f3.f1, .string c.z.f3.f2], .int .i64 x.rows, .int .i64 s0.f0] (by rfl) rfl rfl (by simp only [List.map_toArray, List.map_cons, List.map_nil]; rfl) ?_
      with_reducible refine (refZone_calls c.z x.rows s0.f0 W2).mono ?_
      rintro e w3 ⟨rfl, hb3⟩
      refine ⟨_, rfl, ?_⟩
      rw [HST.out]
      have HB3 := am hb3
      clear hb3
      refine hK.out _ _ ⟨pw_cell_below HB3.out r0, pw_cell_below HB3.out r34, pw_cell_below HB3.out z0, pw_cell_below HB3.out z1, pw_cell_below HB3.out z2, pw_cell_below HB3.out z3, pw_cell_below HB3.out z4, pw_cell_below HB3.out z5, pw_cell_below HB3.out z6, pw_cell_below HB3.out z7, pw_cell_below HB3.out y0, pw_cell_below HB3.out y1⟩ (fun hHeld => ?_)
      clear hK K
      refine norm_ (a' := ?_) ?_ ?_
      rotate_left
      ·show Act.put _ (some 53) _ = _
       simp only [Act.put, sA1, sA2, sA3, i64_w, i32_w]
       rfl
      refine pu 14 (some 54) ?_ ?_ ?_ ?_ ?_
      rotate_left 2
      ·intro w'
       go_simp
       with_reducible rfl
      ·simp only [Act.put, sA1, sA2, sA3, i64_w, i32_w]
       rfl
      refine pu 15 (some 55) ?_ ?_ ?_ ?_ ?_
      rotate_left 2
      ·intro w'
       go_simp
       with_reducible rfl
      ·simp only [Act.put, sA1, sA2, sA3, i64_w, i32_w]
       rfl
      refine pu 16 (some 56) ?_ ?_ ?_ ?_ ?_
      rotate_left 2
      ·intro w'
       go_simp
       with_reducible rfl
      ·simp only [Act.put, sA1, sA2, sA3, i64_w, i32_w]
       rfl
      refine pu 18 (some 58) ?_ ?_ ?_ ?_ ?_
      rotate_left 2
      ·intro w'
       go_simp
       with_reducible rfl
      ·simp only [Act.put, sA1, sA2, sA3, i64_w, i32_w]
       rfl
      refine tk 17 (some 57) ?_ ?_ hHeld ?_ ?_ ?_
      rotate_left 2
      ·rintro w' ⟨s0, s1, s2, s3, s4, s5, s6, s7, s8, s9, s10, s11⟩
       go_simp
       with_reducible rfl
      ·simp only [Act.put, sA1, sA2, sA3, i64_w, i32_w]
       rfl
      refine pu 19 (some 59) ?_ ?_ ?_ ?_ ?_
      rotate_left 2
      ·intro w'
       go_simp
       with_reducible rfl
      ·simp only [Act.put, sA1, sA2, sA3, i64_w, i32_w]
       rfl
      refine pu 20 (some 60) ?_ ?_ ?_ ?_ ?_
      rotate_left 2
      ·intro w'
       go_simp
       with_reducible rfl
      ·simp only [Act.put, sA1, sA2, sA3, i64_w, i32_w]
       rfl
      refine pu 21 (some 61) ?_ ?_ ?_ ?_ ?_
      rotate_left 2
      ·intro w'
       go_simp
       with_reducible rfl
      ·simp only [Act.put, sA1, sA2, sA3, i64_w, i32_w]
       rfl
      refine tk 22 (some 62) ?_ ?_ hHeld ?_ ?_ ?_
      rotate_left 2
      ·rintro w' ⟨s0, s1, s2, s3, s4, s5, s6, s7, s8, s9, s10, s11⟩
       go_simp
       with_reducible rfl
      ·simp only [Act.put, sA1, sA2, sA3, i64_w, i32_w]
       rfl
      refine pu 23 (some 63) ?_ ?_ ?_ ?_ ?_
      rotate_left 2
      ·intro w'
       go_simp
       with_reducible rfl
      ·simp only [Act.put, sA1, sA2, sA3, i64_w, i32_w]
       rfl
      refine pu 24 (some 64) ?_ ?_ ?_ ?_ ?_
      rotate_left 2
      ·intro w'
       go_simp
       with_reducible rfl
      ·simp only [Act.put, sA1, sA2, sA3, i64_w, i32_w]
       rfl
      refine pu 25 (some 65) ?_ ?_ ?_ ?_ ?_
      rotate_left 2
      ·intro w'
       go_simp
       with_reducible rfl
      ·simp only [Act.put, sA1, sA2, sA3, i64_w, i32_w]
       rfl
      refine pu 26 (some 66) ?_ ?_ ?_ ?_ ?_
      rotate_left 2
      ·intro w'
       go_simp
       with_reducible rfl
      ·simp only [Act.put, sA1, sA2, sA3, i64_w, i32_w]
       rfl
      refine pu 27 (some 67) ?_ ?_ ?_ ?_ ?_
      rotate_left 2
      ·intro w'
       go_simp
       with_reducible rfl
      ·simp only [Act.put, sA1, sA2, sA3, i64_w, i32_w]
       rfl
      refine pu 28 (some 68) ?_ ?_ ?_ ?_ ?_
      rotate_left 2
      ·intro w'
       go_simp
       with_reducible rfl
      ·simp only [Act.put, sA1, sA2, sA3, i64_w, i32_w]
       rfl
      refine tk 29 (some 69) ?_ ?_ hHeld ?_ ?_ ?_
      rotate_left 2
      ·rintro w' ⟨s0, s1, s2, s3, s4, s5, s6, s7, s8, s9, s10, s11⟩
       go_simp
       with_reducible rfl
      ·simp only [Act.put, sA1, sA2, sA3, i64_w, i32_w]
       rfl
      refine pu 30 (some 70) ?_ ?_ ?_ ?_ ?_
      rotate_left 2
      ·intro w'
       go_simp
       with_reducible rfl
      ·simp only [Act.put, sA1, sA2, sA3, i64_w, i32_w]
       rfl
      refine pu 31 (some 71) ?_ ?_ ?_ ?_ ?_
      rotate_left 2
      ·intro w'
       go_simp
       with_reducible rfl
      ·simp only [Act.put, sA1, sA2, sA3, i64_w, i32_w]
       rfl
      refine pu 32 (some 72) ?_ ?_ ?_ ?_ ?_
      rotate_left 2
      ·intro w'
       go_simp
       with_reducible rfl
      ·simp only [Act.put, sA1, sA2, sA3, i64_w, i32_w]
       rfl
      refine done_ (by kernel_rfl) ?_
      have HB5 := am (below_call HBD.out HB3.out)
      have HH5 := am ((HB3.out.block _ (blk_lt HHD.out)).trans HHD.out)
      go_wp2
      go_roundw
      case rel => exact ⟨j + 1, by omega, by go_num, ⟨HE2.out.symm⟩, HB5, HH5⟩
      case measure => simp [intOf]; omega
    ·rw [if_neg hn] at HE
     have hn' : decide (c.z.f0 > 0) = false := decide_eq_false hn
     have HE2 := am HE
     clear HE
     refine start_ (n := 33) (S := fun w' => w'.cell? ⟨w.heap.size, 0, none⟩ = some (.int .i64 x.rows) ∧ w'.cell? ⟨w.heap.size, 34, none⟩ = some (.slice (some ⟨b, o, none⟩) x.cols.length c0) ∧ w'.cell? ⟨b, o + j * 40, none⟩ = some (.int .i64 c.z.f0) ∧ w'.cell? ⟨b, o + j * 40 + 1, none⟩ = some (.bool c.z.f1) ∧ w'.cell? ⟨b, o + j * 40 + 2, none⟩ = some (.int .i64 c.z.f2.f0) ∧ w'.cell? ⟨b, o + j * 40 + 3, none⟩ = some (.int .i64 c.z.f2.f1) ∧ w'.cell? ⟨b, o + j * 40 + 4, none⟩ = some (.string c.z.f2.f2) ∧ w'.cell? ⟨b, o + j * 40 + 5, none⟩ = some (.int .i64 c.z.f3.f0) ∧ w'.cell? ⟨b, o + j * 40 + 6, none⟩ = some (.int .i64 c.z.f3.f1) ∧ w'.cell? ⟨b, o + j * 40 + 7, none⟩ = some (.string c.z.f3.f2) ∧ w'.cell? (bd.add (j * 3)) = some (.int .i64 s0.f0) ∧ w'.cell? ⟨(bd.add (j * 3)).block, (bd.add (j * 3)).off + 1, none⟩ = some (.bool s0.f1)) (ds := []) #[false, false, false, false, false, false, false, false, false, false, false, false, false, false, false, false, false, false, false, false, false, false, false, false, false, false, false, false, false, false, false, false, false] (by kernel_rfl) rfl rfl ⟨r0, r34, z0, z1, z2, z3, z4, z5, z6, z7, y0, y1⟩ (fun hHeld => ?_)
     generalize wr.drew = W2 at *
     refine pu 0 (some 40) ?_ ?_ ?_ ?_ ?_
     rotate_left 2
     ·intro w'
      go_simp
      with_reducible rfl
     ·simp only [Act.put, sA1, sA2, sA3, i64_w, i32_w]
      rfl
     refine pu 2 (some 42) ?_ ?_ ?_ ?_ ?_
     rotate_left 2
     ·intro w'
      go_simp
      with_reducible rfl
     ·simp only [Act.put, sA1, sA2, sA3, i64_w, i32_w]
      rfl
     refine pu 6 (some 46) ?_ ?_ ?_ ?_ ?_
     rotate_left 2
     ·intro w'
      go_simp
      with_reducible rfl
     ·simp only [Act.put, sA1, sA2, sA3, i64_w, i32_w]
      rfl
     refine pu 8 (some 48) ?_ ?_ ?_ ?_ ?_
     rotate_left 2
     ·intro w'
      go_simp
      with_reducible rfl
     ·simp only [Act.put, sA1, sA2, sA3, i64_w, i32_w]
      rfl
     refine pu 9 (some 49) ?_ ?_ ?_ ?_ ?_
     rotate_left 2
     ·intro w'
      go_simp
      with_reducible rfl
     ·simp only [Act.put, sA1, sA2, sA3, i64_w, i32_w]
      rfl
     refine pu 10 (some 50) ?_ ?_ ?_ ?_ ?_
     rotate_left 2
     ·intro w'
      go_simp
      with_reducible rfl
     ·simp only [Act.put, sA1, sA2, sA3, i64_w, i32_w]
      rfl
     refine pu 11 (some 51) ?_ ?_ ?_ ?_ ?_
     rotate_left 2
     ·intro w'
      go_simp
      with_reducible rfl
     ·simp only [Act.put, sA1, sA2, sA3, i64_w, i32_w]
      rfl
     refine tk 1 (some 41) ?_ ?_ hHeld ?_ ?_ ?_
     rotate_left 2
     ·rintro w' ⟨s0, s1, s2, s3, s4, s5, s6, s7, s8, s9, s10, s11⟩
      go_simp
      with_reducible rfl
     ·simp only [Act.put, sA1, sA2, sA3, i64_w, i32_w]
      rfl
     refine pu 3 (some 43) ?_ ?_ ?_ ?_ ?_
     rotate_left 2
     ·intro w'
      go_simp
      with_reducible rfl
     ·simp only [Act.put, sA1, sA2, sA3, i64_w, i32_w]
      rfl
     refine pu 4 (some 44) ?_ ?_ ?_ ?_ ?_
     rotate_left 2
     ·intro w'
      go_simp
      with_reducible rfl
     ·simp only [Act.put, sA1, sA2, sA3, i64_w, i32_w]
      rfl
     refine tk 5 (some 45) ?_ ?_ hHeld ?_ ?_ ?_
     rotate_left 2
     ·rintro w' ⟨s0, s1, s2, s3, s4, s5, s6, s7, s8, s9, s10, s11⟩
      go_simp
      with_reducible rfl
     ·simp only [Act.put, sA1, sA2, sA3, i64_w, i32_w]
      rfl
     refine tk 7 (some 47) ?_ ?_ hHeld ?_ ?_ ?_
     rotate_left 2
     ·rintro w' ⟨s0, s1, s2, s3, s4, s5, s6, s7, s8, s9, s10, s11⟩
      go_simp
      with_reducible rfl
     ·simp only [Act.put, sA1, sA2, sA3, i64_w, i32_w]
      rfl
     refine tk 12 (some 52) ?_ ?_ hHeld ?_ ?_ ?_
     rotate_left 2
     ·rintro w' ⟨s0, s1, s2, s3, s4, s5, s6, s7, s8, s9, s10, s11⟩
      go_simp
      with_reducible rfl
     ·simp only [Act.put, sA1, sA2, sA3, i64_w, i32_w]
      rfl
     refine on (i := 13) (N := some 53) rfl rfl (by kernel_rfl) (by decide) (fun K hK => ?_)
     refine goes_ Tryz.func83 (by kernel_rfl) rfl #[.agg #[.int .i64 c.z.f0, .bool c.z.f1, .int .i64 c.z.f2.f0, .int .i64 c.z.f2.f1, .string c.z.f2.f2, .int .i64 c.z.f3.f0, .int .i64 c.z.f3.f1, .string c.z.f3.f2], .int .i64 x.rows, .int .i64 s0.f0] (by rfl) rfl rfl (by simp only [List.map_toArray, List.map_cons, List.map_nil]; rfl) ?_
     with_reducible refine (refZone_calls c.z x.rows s0.f0 W2).mono ?_
     rintro e w3 ⟨rfl, hb3⟩
     refine ⟨_, rfl, ?_⟩
     rw [HST.out]
     have HB3 := am hb3
     clear hb3
     refine hK.out _ _ ⟨pw_cell_below HB3.out r0, pw_cell_below HB3.out r34, pw_cell_below HB3.out z0, pw_cell_below HB3.out z1, pw_cell_below HB3.out z2, pw_cell_below HB3.out z3, pw_cell_below HB3.out z4, pw_cell_below HB3.out z5, pw_cell_below HB3.out z6, pw_cell_below HB3.out z7, pw_cell_below HB3.out y0, pw_cell_below HB3.out y1⟩ (fun hHeld => ?_)
     clear hK K
     refine norm_ (a' := ?_) ?_ ?_
     rotate_left
     ·show Act.put _ (some 53) _ = _
      simp only [Act.put, sA1, sA2, sA3, i64_w, i32_w]
      rfl
     refine pu 14 (some 54) ?_ ?_ ?_ ?_ ?_
     rotate_left 2
     ·intro w'
      go_simp
      with_reducible rfl
     ·simp only [Act.put, sA1, sA2, sA3, i64_w, i32_w]
      rfl
     refine pu 15 (some 55) ?_ ?_ ?_ ?_ ?_
     rotate_left 2
     ·intro w'
      go_simp
      with_reducible rfl
     ·simp only [Act.put, sA1, sA2, sA3, i64_w, i32_w]
      rfl
     refine pu 16 (some 56) ?_ ?_ ?_ ?_ ?_
     rotate_left 2
     ·intro w'
      go_simp
      with_reducible rfl
     ·simp only [Act.put, sA1, sA2, sA3, i64_w, i32_w]
      rfl
     refine pu 18 (some 58) ?_ ?_ ?_ ?_ ?_
     rotate_left 2
     ·intro w'
      go_simp
      with_reducible rfl
     ·simp only [Act.put, sA1, sA2, sA3, i64_w, i32_w]
      rfl
     refine tk 17 (some 57) ?_ ?_ hHeld ?_ ?_ ?_
     rotate_left 2
     ·rintro w' ⟨s0, s1, s2, s3, s4, s5, s6, s7, s8, s9, s10, s11⟩
      go_simp
      with_reducible rfl
     ·simp only [Act.put, sA1, sA2, sA3, i64_w, i32_w]
      rfl
     refine pu 19 (some 59) ?_ ?_ ?_ ?_ ?_
     rotate_left 2
     ·intro w'
      go_simp
      with_reducible rfl
     ·simp only [Act.put, sA1, sA2, sA3, i64_w, i32_w]
      rfl
     refine pu 20 (some 60) ?_ ?_ ?_ ?_ ?_
     rotate_left 2
     ·intro w'
      go_simp
      with_reducible rfl
     ·simp only [Act.put, sA1, sA2, sA3, i64_w, i32_w]
      rfl
     refine pu 21 (some 61) ?_ ?_ ?_ ?_ ?_
     rotate_left 2
     ·intro w'
      go_simp
      with_reducible rfl
     ·simp only [Act.put, sA1, sA2, sA3, i64_w, i32_w]
      rfl
     refine tk 22 (some 62) ?_ ?_ hHeld ?_ ?_ ?_
     rotate_left 2
     ·rintro w' ⟨s0, s1, s2, s3, s4, s5, s6, s7, s8, s9, s10, s11⟩
      go_simp
      with_reducible rfl
     ·simp only [Act.put, sA1, sA2, sA3, i64_w, i32_w]
      rfl
     refine pu 23 (some 63) ?_ ?_ ?_ ?_ ?_
     rotate_left 2
     ·intro w'
      go_simp
      with_reducible rfl
     ·simp only [Act.put, sA1, sA2, sA3, i64_w, i32_w]
      rfl
     refine pu 24 (some 64) ?_ ?_ ?_ ?_ ?_
     rotate_left 2
     ·intro w'
      go_simp
      with_reducible rfl
     ·simp only [Act.put, sA1, sA2, sA3, i64_w, i32_w]
      rfl
     refine pure_ (i := 25) (N := some 65) (v := undef) (a' := ?_) #[true, true, true, true, true, true, true, true, true, true, true, true, true, true, true, true, true, true, true, true, true, true, true, true, true, true, false, false, false, false, false, false, false] rfl rfl (by kernel_rfl) (fun _ _ _ h => h) (Or.inr ⟨by rfl, rfl⟩) ?_ ?_
     rotate_left
     ·simp only [Act.put, sA1, sA2, sA3, i64_w, i32_w]
      rfl
     refine pure_ (i := 26) (N := some 66) (v := undef) (a' := ?_) #[true, true, true, true, true, true, true, true, true, true, true, true, true, true, true, true, true, true, true, true, true, true, true, true, true, true, true, false, false, false, false, false, false] rfl rfl (by kernel_rfl) (fun _ _ _ h => h) (Or.inr ⟨by rfl, rfl⟩) ?_ ?_
     rotate_left
     ·simp only [Act.put, sA1, sA2, sA3, i64_w, i32_w]
      rfl
     refine pure_ (i := 27) (N := some 67) (v := undef) (a' := ?_) #[true, true, true, true, true, true, true, true, true, true, true, true, true, true, true, true, true, true, true, true, true, true, true, true, true, true, true, true, false, false, false, false, false] rfl rfl (by kernel_rfl) (fun _ _ _ h => h) (Or.inr ⟨by rfl, rfl⟩) ?_ ?_
     rotate_left
     ·simp only [Act.put, sA1, sA2, sA3, i64_w, i32_w]
      rfl
     refine pure_ (i := 28) (N := some 68) (v := undef) (a' := ?_) #[true, true, true, true, true, true, true, true, true, true, true, true, true, true, true, true, true, true, true, true, true, true, true, true, true, true, true, true, true, false, false, false, false] rfl rfl (by kernel_rfl) (fun _ _ _ h => h) (Or.inr ⟨by rfl, rfl⟩) ?_ ?_
     rotate_left
     ·simp only [Act.put, sA1, sA2, sA3, i64_w, i32_w]
      rfl
     refine pure_ (i := 29) (N := some 69) (v := undef) (a' := ?_) #[true, true, true, true, true, true, true, true, true, true, true, true, true, true, true, true, true, true, true, true, true, true, true, true, true, true, true, true, true, true, false, false, false] rfl rfl (by kernel_rfl) (fun _ _ _ h => h) (Or.inr ⟨by rfl, rfl⟩) ?_ ?_
     rotate_left
     ·simp only [Act.put, sA1, sA2, sA3, i64_w, i32_w]
      rfl
     refine pure_ (i := 30) (N := some 70) (v := undef) (a' := ?_) #[true, true, true, true, true, true, true, true, true, true, true, true, true, true, true, true, true, true, true, true, true, true, true, true, true, true, true, true, true, true, true, false, false] rfl rfl (by kernel_rfl) (fun _ _ _ h => h) (Or.inr ⟨by rfl, rfl⟩) ?_ ?_
     rotate_left
     ·simp only [Act.put, sA1, sA2, sA3, i64_w, i32_w]
      rfl
     refine pu 31 (some 71) ?_ ?_ ?_ ?_ ?_
     rotate_left 2
     ·intro w'
      go_simp
      with_reducible rfl
     ·simp only [Act.put, sA1, sA2, sA3, i64_w, i32_w]
      rfl
     refine pu 32 (some 72) ?_ ?_ ?_ ?_ ?_
     rotate_left 2
     ·intro w'
      go_simp
      with_reducible rfl
     ·simp only [Act.put, sA1, sA2, sA3, i64_w, i32_w]
      rfl
     refine done_ (by kernel_rfl) ?_
     have HB5 := am (below_call HBD.out HB3.out)
     have HH5 := am ((HB3.out.block _ (blk_lt HHD.out)).trans HHD.out)
     go_wp2
     go_roundw
     case rel => exact ⟨j + 1, by omega, by go_num, ⟨HE2.out.symm⟩, HB5, HH5⟩
     case measure => simp [intOf]; omega
  ·obtain rfl : j = s.length := by omega
   go_wp2
   go_ret
   exact ⟨by rw [← HX.out, colsP_nil _ _ _ _ (by omega)]; rfl, HB.out⟩
end
end Go.Proofs.YtjmhiklmlgbifaaGreatDoor.PMan

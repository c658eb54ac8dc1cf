/- Texts, put into one. -/
import Derived.Test.YtjmhiklmlgbifaaGreatDoorPT33
import Derived.Test.YtjmhiklmlgbifaaGreatDoorPTW
set_option linter.unusedVariables false
set_option linter.unusedSimpArgs false
open Go Go.RowKit Go.Proofs.YtjmhiklmlgbifaaGreatDoorW.PrintWords Go.Proofs.YtjmhiklmlgbifaaGreatDoorW.PrintLast Go.Proofs.YtjmhiklmlgbifaaGreatDoorW.PrintMore
namespace Go.Proofs.YtjmhiklmlgbifaaGreatDoor.PMan
section
theorem standsP_R (c : S123) (v : S68) : standsP c v = (rightR v c.f0 && !(v.f0 == 0 && !c.f1)) := by
 unfold standsP zeroV rightR
 by_cases h0 : v.f0 = 0
 ·by_cases h1 : v.f1 = 0
  ·by_cases h2 : v.f2.toList = []
   ·simp [h0, h1, h2]
   ·simp [h0, h1, h2]
  ·simp [h0, h1]
 ·by_cases h1 : v.f0 = 1
  ·by_cases h2 : v.f2.toList = []
   ·by_cases h3 : c.f0 = 1
    ·simp [h1, h2, h3]
    ·have h4 : ¬ 1 = c.f0 := fun e => h3 e.symm
     simp [h1, h2, h3, h4]
   ·by_cases h3 : c.f0 = 1
    ·simp [h1, h2, h3]
    ·have h4 : ¬ 1 = c.f0 := fun e => h3 e.symm
     simp [h1, h2, h3, h4]
  ·by_cases h2 : v.f0 = 2
   ·by_cases h3 : v.f1 = 0
    ·by_cases h4 : c.f0 = 2
     ·simp [h2, h3, h4]
     ·have h5 : ¬ 2 = c.f0 := fun e => h4 e.symm
      simp [h2, h3, h4, h5]
    ·by_cases h4 : c.f0 = 2
     ·simp [h2, h3, h4]
     ·have h5 : ¬ 2 = c.f0 := fun e => h4 e.symm
      simp [h2, h3, h4, h5]
   ·by_cases h4 : v.f0 = c.f0
    ·have h5 : ¬ c.f0 = 1 := fun e => h1 (h4.trans e)
     have h6 : ¬ c.f0 = 2 := fun e => h2 (h4.trans e)
     simp [h0, h1, h2, h5, h6]
    ·simp [h0, h1, h2, h4]
set_option maxHeartbeats 3200000 in
set_option maxRecDepth 100000 in
theorem refRow_calls (A0 : Option Addr) (c0 : Nat) (s : List S123) (A1 : Option Addr) (c1 : Nat) (r : List S68) (w : World) (hr0 : Kd.C k123 w A0 s.length s) (hc0 : s.length ≤ c0) (hr1 : Kd.C k68 w A1 r.length r) (hc1 : r.length ≤ c1) :
  Calls Tryz.prog 51 #[.slice A0 s.length c0, .slice A1 r.length c1] w fun e w' => e = .returned (.int .i64 (rowP s r)) ∧ Below w.heap.size w w' := by
 have hb : r.length ≤ 9223372036854775807 := hr1.2.1
 have HR0 := am hr0
 have HR1 := am hr1
 clear hr0 hr1
 go_enter Tryz.func51, Tryz.ntmps51
 go_wp2
 ·go_ret
  exact ⟨by unfold rowP; rw [if_neg (by simp_all)]; rfl, Below.refl _ _⟩
 ·have hl : r.length = s.length := by
   have hq : ((r.length : Int) != (s.length : Int)) = false := by assumption
   simp at hq
   omega
  go_loopw [5] (fun v5 w' => ∃ j : Nat, j ≤ r.length ∧ v5 = .int .i64 j ∧ Aside0 (rowL (s.drop j) (r.drop j) = rowL s r) ∧ Aside0 (Below w.heap.size w w')) (fun i _ => r.length - (intOf i).toNat)
  case atStart => exact ⟨0, Nat.zero_le _, rfl, ⟨rfl⟩, ⟨Below.refl _ _⟩⟩
  case round =>
   obtain ⟨j, hj, rfl, HX, HB⟩ := hrel
   by_cases hlt : j < r.length
   ·obtain ⟨ad, e1, x0, x1, x2⟩ := at_T68 (Kd.C_below HR1.out HB.out) (j : Int) (by omega) (by omega)
    obtain ⟨bd, e2, y0, y1, y2⟩ := at_T123 (Kd.C_below HR0.out HB.out) (j : Int) (by omega) (by omega)
    cases e1
    cases e2
    have hs := rowL_at s r j (by omega) hlt
    rw [HX.out] at hs
    generalize rd_T68 r (j : Int) = v at *
    generalize rd_T123 s (j : Int) = c at *
    rw [show ((j : Int)).toNat = j from by omega] at x0 x1 x2 y0 y1 y2
    rw [standsP_R] at hs
    have HS := am hs
    have HBD := am (below_drew HB.out)
    clear hs y2
    have x0 : wr.drew.cell? (ad.add (j * 3)) = some (.int .i64 v.f0) := x0
    have x1 : wr.drew.cell? ⟨(ad.add (j * 3)).block, (ad.add (j * 3)).off + 1, none⟩ = some (.int .i64 v.f1) := x1
    have x2 : wr.drew.cell? ⟨(ad.add (j * 3)).block, (ad.add (j * 3)).off + 2, none⟩ = some (.string v.f2) := x2
    have y0 : wr.drew.cell? (bd.add (j * 3)) = some (.int .i64 c.f0) := y0
    have y1 : wr.drew.cell? ⟨(bd.add (j * 3)).block, (bd.add (j * 3)).off + 1, none⟩ = some (.bool c.f1) := y1
    go_wp2_with fail
    cases hrt : rightR v c.f0 with
    | false =>
     have HRT := am hrt
     have hE := HS.out
     rw [hrt, if_neg (by simp)] at hE
     have HE := am hE
     clear hE hrt
     refine start_ (n := 27) (S := fun w' => w'.cell? (ad.add (j * 3)) = some (.int .i64 v.f0) ∧ w'.cell? ⟨(ad.add (j * 3)).block, (ad.add (j * 3)).off + 1, none⟩ = some (.int .i64 v.f1) ∧ w'.cell? ⟨(ad.add (j * 3)).block, (ad.add (j * 3)).off + 2, none⟩ = some (.string v.f2) ∧ w'.cell? (bd.add (j * 3)) = some (.int .i64 c.f0) ∧ w'.cell? ⟨(bd.add (j * 3)).block, (bd.add (j * 3)).off + 1, none⟩ = some (.bool c.f1)) (ds := []) #[false, false, false, false, false, false, false, false, false, false, false, false, false, false, false, false, false, false, false, false, false, false, false, false, false, false, false] (by kernel_rfl) rfl rfl ⟨x0, x1, x2, y0, y1⟩ (fun hHeld => ?_)
     generalize wr.drew = W2 at *
     refine pu 0 (some 17) ?_ ?_ ?_ ?_ ?_
     rotate_left 2
     ·intro w'
      go_simp
      with_reducible rfl
     ·simp only [Act.put, sA1, sA2, sA3, i64_w, i32_w]
      rfl
     refine pu 1 (some 18) ?_ ?_ ?_ ?_ ?_
     rotate_left 2
     ·intro w'
      go_simp
      with_reducible rfl
     ·simp only [Act.put, sA1, sA2, sA3, i64_w, i32_w]
      rfl
     refine pu 2 (some 19) ?_ ?_ ?_ ?_ ?_
     rotate_left 2
     ·intro w'
      go_simp
      with_reducible rfl
     ·simp only [Act.put, sA1, sA2, sA3, i64_w, i32_w]
      rfl
     refine pu 4 (some 21) ?_ ?_ ?_ ?_ ?_
     rotate_left 2
     ·intro w'
      go_simp
      with_reducible rfl
     ·simp only [Act.put, sA1, sA2, sA3, i64_w, i32_w]
      rfl
     refine pu 5 (some 22) ?_ ?_ ?_ ?_ ?_
     rotate_left 2
     ·intro w'
      go_simp
      with_reducible rfl
     ·simp only [Act.put, sA1, sA2, sA3, i64_w, i32_w]
      rfl
     refine pu 6 (some 23) ?_ ?_ ?_ ?_ ?_
     rotate_left 2
     ·intro w'
      go_simp
      with_reducible rfl
     ·simp only [Act.put, sA1, sA2, sA3, i64_w, i32_w]
      rfl
     refine pu 7 (some 24) ?_ ?_ ?_ ?_ ?_
     rotate_left 2
     ·intro w'
      go_simp
      with_reducible rfl
     ·simp only [Act.put, sA1, sA2, sA3, i64_w, i32_w]
      rfl
     refine tk 3 (some 20) ?_ ?_ hHeld ?_ ?_ ?_
     rotate_left 2
     ·rintro w' ⟨s0, s1, s2, s3, s4⟩
      go_simp
      with_reducible rfl
     ·simp only [Act.put, sA1, sA2, sA3, i64_w, i32_w]
      rfl
     refine tk 8 (some 25) ?_ ?_ hHeld ?_ ?_ ?_
     rotate_left 2
     ·rintro w' ⟨s0, s1, s2, s3, s4⟩
      go_simp
      with_reducible rfl
     ·simp only [Act.put, sA1, sA2, sA3, i64_w, i32_w]
      rfl
     refine on (i := 9) (N := some 26) rfl rfl (by kernel_rfl) (by decide) (fun K hK => ?_)
     refine goes_ Tryz.func84 (by kernel_rfl) rfl #[.agg #[.int .i64 v.f0, .int .i64 v.f1, .string v.f2], .int .i64 c.f0] (by rfl) rfl rfl (by simp only [List.map_toArray, List.map_cons, List.map_nil]; rfl) ?_
     with_reducible refine (refRight_calls v c.f0 W2).mono ?_
     rintro e w3 ⟨rfl, hb3⟩
     refine ⟨_, rfl, ?_⟩
     rw [HRT.out]
     have HB3 := am hb3
     clear hb3
     refine hK.out _ _ ⟨pw_cell_below HB3.out x0, pw_cell_below HB3.out x1, pw_cell_below HB3.out x2, pw_cell_below HB3.out y0, pw_cell_below HB3.out y1⟩ (fun hHeld => ?_)
     clear hK K
     refine norm_ (a' := ?_) ?_ ?_
     rotate_left
     ·show Act.put _ (some 26) _ = _
      simp only [Act.put, sA1, sA2, sA3, i64_w, i32_w]
      rfl
     refine pu 10 (some 27) ?_ ?_ ?_ ?_ ?_
     rotate_left 2
     ·intro w'
      go_simp
      with_reducible rfl
     ·simp only [Act.put, sA1, sA2, sA3, i64_w, i32_w]
      rfl
     refine pu 11 (some 28) ?_ ?_ ?_ ?_ ?_
     rotate_left 2
     ·intro w'
      go_simp
      with_reducible rfl
     ·simp only [Act.put, sA1, sA2, sA3, i64_w, i32_w]
      rfl
     refine pure_ (i := 12) (N := some 29) (v := undef) (a' := ?_) #[true, true, true, true, true, true, true, true, true, true, true, true, true, false, false, false, false, false, false, false, false, false, false, false, false, false, false] rfl rfl (by kernel_rfl) (fun _ _ _ h => h) (Or.inr ⟨by rfl, rfl⟩) ?_ ?_
     rotate_left
     ·simp only [Act.put, sA1, sA2, sA3, i64_w, i32_w]
      rfl
     refine pure_ (i := 13) (N := some 30) (v := undef) (a' := ?_) #[true, true, true, true, true, true, true, true, true, true, true, true, true, true, false, false, false, false, false, false, false, false, false, false, false, false, false] rfl rfl (by kernel_rfl) (fun _ _ _ h => h) (Or.inr ⟨by rfl, rfl⟩) ?_ ?_
     rotate_left
     ·simp only [Act.put, sA1, sA2, sA3, i64_w, i32_w]
      rfl
     refine pure_ (i := 14) (N := some 31) (v := undef) (a' := ?_) #[true, true, true, true, true, true, true, true, true, true, true, true, true, true, true, false, false, false, false, false, false, false, false, false, false, false, false] rfl rfl (by kernel_rfl) (fun _ _ _ h => h) (Or.inr ⟨by rfl, rfl⟩) ?_ ?_
     rotate_left
     ·simp only [Act.put, sA1, sA2, sA3, i64_w, i32_w]
      rfl
     refine pure_ (i := 15) (N := some 32) (v := undef) (a' := ?_) #[true, true, true, true, true, true, true, true, true, true, true, true, true, true, true, true, false, false, false, false, false, false, false, false, false, false, false] rfl rfl (by kernel_rfl) (fun _ _ _ h => h) (Or.inr ⟨by rfl, rfl⟩) ?_ ?_
     rotate_left
     ·simp only [Act.put, sA1, sA2, sA3, i64_w, i32_w]
      rfl
     refine pure_ (i := 16) (N := some 33) (v := undef) (a' := ?_) #[true, true, true, true, true, true, true, true, true, true, true, true, true, true, true, true, true, false, false, false, false, false, false, false, false, false, false] rfl rfl (by kernel_rfl) (fun _ _ _ h => h) (Or.inr ⟨by rfl, rfl⟩) ?_ ?_
     rotate_left
     ·simp only [Act.put, sA1, sA2, sA3, i64_w, i32_w]
      rfl
     refine pure_ (i := 17) (N := some 34) (v := undef) (a' := ?_) #[true, true, true, true, true, true, true, true, true, true, true, true, true, true, true, true, true, true, false, false, false, false, false, false, false, false, false] rfl rfl (by kernel_rfl) (fun _ _ _ h => h) (Or.inr ⟨by rfl, rfl⟩) ?_ ?_
     rotate_left
     ·simp only [Act.put, sA1, sA2, sA3, i64_w, i32_w]
      rfl
     refine pure_ (i := 18) (N := some 35) (v := undef) (a' := ?_) #[true, true, true, true, true, true, true, true, true, true, true, true, true, true, true, true, true, true, true, false, false, false, false, false, false, false, false] rfl rfl (by kernel_rfl) (fun _ _ _ h => h) (Or.inr ⟨by rfl, rfl⟩) ?_ ?_
     rotate_left
     ·simp only [Act.put, sA1, sA2, sA3, i64_w, i32_w]
      rfl
     refine pure_ (i := 19) (N := some 36) (v := undef) (a' := ?_) #[true, true, true, true, true, true, true, true, true, true, true, true, true, true, true, true, true, true, true, true, false, false, false, false, false, false, false] rfl rfl (by kernel_rfl) (fun _ _ _ h => h) (Or.inr ⟨by rfl, rfl⟩) ?_ ?_
     rotate_left
     ·simp only [Act.put, sA1, sA2, sA3, i64_w, i32_w]
      rfl
     refine pure_ (i := 20) (N := some 37) (v := undef) (a' := ?_) #[true, true, true, true, true, true, true, true, true, true, true, true, true, true, true, true, true, true, true, true, true, false, false, false, false, false, false] rfl rfl (by kernel_rfl) (fun _ _ _ h => h) (Or.inr ⟨by rfl, rfl⟩) ?_ ?_
     rotate_left
     ·simp only [Act.put, sA1, sA2, sA3, i64_w, i32_w]
      rfl
     refine pure_ (i := 21) (N := some 38) (v := undef) (a' := ?_) #[true, true, true, true, true, true, true, true, true, true, true, true, true, true, true, true, true, true, true, true, true, true, false, false, false, false, false] rfl rfl (by kernel_rfl) (fun _ _ _ h => h) (Or.inr ⟨by rfl, rfl⟩) ?_ ?_
     rotate_left
     ·simp only [Act.put, sA1, sA2, sA3, i64_w, i32_w]
      rfl
     refine pure_ (i := 22) (N := some 39) (v := undef) (a' := ?_) #[true, true, true, true, true, true, true, true, true, true, true, true, true, true, true, true, true, true, true, true, true, true, true, false, false, false, false] rfl rfl (by kernel_rfl) (fun _ _ _ h => h) (Or.inr ⟨by rfl, rfl⟩) ?_ ?_
     rotate_left
     ·simp only [Act.put, sA1, sA2, sA3, i64_w, i32_w]
      rfl
     refine pure_ (i := 23) (N := some 40) (v := undef) (a' := ?_) #[true, true, true, true, true, true, true, true, true, true, true, true, true, true, true, true, true, true, true, true, true, true, true, true, false, false, false] rfl rfl (by kernel_rfl) (fun _ _ _ h => h) (Or.inr ⟨by rfl, rfl⟩) ?_ ?_
     rotate_left
     ·simp only [Act.put, sA1, sA2, sA3, i64_w, i32_w]
      rfl
     refine pure_ (i := 24) (N := some 41) (v := undef) (a' := ?_) #[true, true, true, true, true, true, true, true, true, true, true, true, true, true, true, true, true, true, true, true, true, true, true, true, true, false, false] rfl rfl (by kernel_rfl) (fun _ _ _ h => h) (Or.inr ⟨by rfl, rfl⟩) ?_ ?_
     rotate_left
     ·simp only [Act.put, sA1, sA2, sA3, i64_w, i32_w]
      rfl
     refine pure_ (i := 25) (N := some 42) (v := undef) (a' := ?_) #[true, true, true, true, true, true, true, true, true, true, true, true, true, true, true, true, true, true, true, true, true, true, true, true, true, true, false] rfl rfl (by kernel_rfl) (fun _ _ _ h => h) (Or.inr ⟨by rfl, rfl⟩) ?_ ?_
     rotate_left
     ·simp only [Act.put, sA1, sA2, sA3, i64_w, i32_w]
      rfl
     refine pu 26 (some 43) ?_ ?_ ?_ ?_ ?_
     rotate_left 2
     ·intro w'
      go_simp
      with_reducible rfl
     ·simp only [Act.put, sA1, sA2, sA3, i64_w, i32_w]
      rfl
     refine done_ (by kernel_rfl) ?_
     have HB5 := am (below_call HBD.out HB3.out)
     go_wp2
     go_ret
     exact ⟨by unfold rowP; rw [if_pos (by omega), ← HE.out]; rfl, HB5.out⟩
    | true =>
     have HRT := am hrt
     have hE := HS.out
     rw [hrt] at hE
     clear hrt
     cases hz : (v.f0 == 0) with
     | true =>
      rw [hz] at hE
      cases hn : c.f1 with
      | false =>
       rw [hn, if_neg (by simp)] at hE
       rw [hn] at y1
       have HN := am hn
       have HE := am hE
       clear hE
       refine start_ (n := 27) (S := fun w' => w'.cell? (ad.add (j * 3)) = some (.int .i64 v.f0) ∧ w'.cell? ⟨(ad.add (j * 3)).block, (ad.add (j * 3)).off + 1, none⟩ = some (.int .i64 v.f1) ∧ w'.cell? ⟨(ad.add (j * 3)).block, (ad.add (j * 3)).off + 2, none⟩ = some (.string v.f2) ∧ w'.cell? (bd.add (j * 3)) = some (.int .i64 c.f0) ∧ w'.cell? ⟨(bd.add (j * 3)).block, (bd.add (j * 3)).off + 1, none⟩ = some (.bool false)) (ds := []) #[false, false, false, false, false, false, false, false, false, false, false, false, false, false, false, false, false, false, false, false, false, false, false, false, false, false, false] (by kernel_rfl) rfl rfl ⟨x0, x1, x2, y0, y1⟩ (fun hHeld => ?_)
       generalize wr.drew = W2 at *
       refine pu 0 (some 17) ?_ ?_ ?_ ?_ ?_
       rotate_left 2
       ·intro w'
        go_simp
        with_reducible rfl
       ·simp only [Act.put, sA1, sA2, sA3, i64_w, i32_w]
        rfl
       refine pu 1 (some 18) ?_ ?_ ?_ ?_ ?_
       rotate_left 2
       ·intro w'
        go_simp
        with_reducible rfl
       ·simp only [Act.put, sA1, sA2, sA3, i64_w, i32_w]
        rfl
       refine pu 2 (some 19) ?_ ?_ ?_ ?_ ?_
       rotate_left 2
       ·intro w'
        go_simp
        with_reducible rfl
       ·simp only [Act.put, sA1, sA2, sA3, i64_w, i32_w]
        rfl
       refine pu 4 (some 21) ?_ ?_ ?_ ?_ ?_
       rotate_left 2
       ·intro w'
        go_simp
        with_reducible rfl
       ·simp only [Act.put, sA1, sA2, sA3, i64_w, i32_w]
        rfl
       refine pu 5 (some 22) ?_ ?_ ?_ ?_ ?_
       rotate_left 2
       ·intro w'
        go_simp
        with_reducible rfl
       ·simp only [Act.put, sA1, sA2, sA3, i64_w, i32_w]
        rfl
       refine pu 6 (some 23) ?_ ?_ ?_ ?_ ?_
       rotate_left 2
       ·intro w'
        go_simp
        with_reducible rfl
       ·simp only [Act.put, sA1, sA2, sA3, i64_w, i32_w]
        rfl
       refine pu 7 (some 24) ?_ ?_ ?_ ?_ ?_
       rotate_left 2
       ·intro w'
        go_simp
        with_reducible rfl
       ·simp only [Act.put, sA1, sA2, sA3, i64_w, i32_w]
        rfl
       refine tk 3 (some 20) ?_ ?_ hHeld ?_ ?_ ?_
       rotate_left 2
       ·rintro w' ⟨s0, s1, s2, s3, s4⟩
        go_simp
        with_reducible rfl
       ·simp only [Act.put, sA1, sA2, sA3, i64_w, i32_w]
        rfl
       refine tk 8 (some 25) ?_ ?_ hHeld ?_ ?_ ?_
       rotate_left 2
       ·rintro w' ⟨s0, s1, s2, s3, s4⟩
        go_simp
        with_reducible rfl
       ·simp only [Act.put, sA1, sA2, sA3, i64_w, i32_w]
        rfl
       refine on (i := 9) (N := some 26) rfl rfl (by kernel_rfl) (by decide) (fun K hK => ?_)
       refine goes_ Tryz.func84 (by kernel_rfl) rfl #[.agg #[.int .i64 v.f0, .int .i64 v.f1, .string v.f2], .int .i64 c.f0] (by rfl) rfl rfl (by simp only [List.map_toArray, List.map_cons, List.map_nil]; rfl) ?_
       with_reducible refine (refRight_calls v c.f0 W2).mono ?_
       rintro e w3 ⟨rfl, hb3⟩
       refine ⟨_, rfl, ?_⟩
       rw [HRT.out]
       have HB3 := am hb3
       clear hb3
       refine hK.out _ _ ⟨pw_cell_below HB3.out x0, pw_cell_below HB3.out x1, pw_cell_below HB3.out x2, pw_cell_below HB3.out y0, pw_cell_below HB3.out y1⟩ (fun hHeld => ?_)
       clear hK K
       refine norm_ (a' := ?_) ?_ ?_
       rotate_left
       ·show Act.put _ (some 26) _ = _
        simp only [Act.put, sA1, sA2, sA3, i64_w, i32_w]
        rfl
       refine pu 10 (some 27) ?_ ?_ ?_ ?_ ?_
       rotate_left 2
       ·intro w'
        go_simp
        with_reducible rfl
       ·simp only [Act.put, sA1, sA2, sA3, i64_w, i32_w]
        rfl
       refine pu 11 (some 28) ?_ ?_ ?_ ?_ ?_
       rotate_left 2
       ·intro w'
        go_simp
        with_reducible rfl
       ·simp only [Act.put, sA1, sA2, sA3, i64_w, i32_w]
        rfl
       refine pu 12 (some 29) ?_ ?_ ?_ ?_ ?_
       rotate_left 2
       ·intro w'
        go_simp
        with_reducible rfl
       ·simp only [Act.put, sA1, sA2, sA3, i64_w, i32_w]
        rfl
       refine pu 13 (some 30) ?_ ?_ ?_ ?_ ?_
       rotate_left 2
       ·intro w'
        go_simp
        with_reducible rfl
       ·simp only [Act.put, sA1, sA2, sA3, i64_w, i32_w]
        rfl
       refine pu 14 (some 31) ?_ ?_ ?_ ?_ ?_
       rotate_left 2
       ·intro w'
        go_simp
        with_reducible rfl
       ·simp only [Act.put, sA1, sA2, sA3, i64_w, i32_w]
        rfl
       refine pu 15 (some 32) ?_ ?_ ?_ ?_ ?_
       rotate_left 2
       ·intro w'
        go_simp
        with_reducible rfl
       ·simp only [Act.put, sA1, sA2, sA3, i64_w, i32_w]
        rfl
       refine tk 16 (some 33) ?_ ?_ hHeld ?_ ?_ ?_
       rotate_left 2
       ·rintro w' ⟨s0, s1, s2, s3, s4⟩
        go_simp
        with_reducible rfl
       ·simp only [Act.put, sA1, sA2, sA3, i64_w, i32_w]
        rfl
       refine pu 17 (some 34) ?_ ?_ ?_ ?_ ?_
       rotate_left 2
       ·intro w'
        go_simp
        with_reducible rfl
       ·simp only [Act.put, sA1, sA2, sA3, i64_w, i32_w]
        rfl
       refine pu 18 (some 35) ?_ ?_ ?_ ?_ ?_
       rotate_left 2
       ·intro w'
        go_simp
        with_reducible rfl
       ·simp only [Act.put, sA1, sA2, sA3, i64_w, i32_w]
        rfl
       refine pu 19 (some 36) ?_ ?_ ?_ ?_ ?_
       rotate_left 2
       ·intro w'
        go_simp
        with_reducible rfl
       ·simp only [Act.put, sA1, sA2, sA3, i64_w, i32_w]
        rfl
       refine pu 20 (some 37) ?_ ?_ ?_ ?_ ?_
       rotate_left 2
       ·intro w'
        go_simp
        with_reducible rfl
       ·simp only [Act.put, sA1, sA2, sA3, i64_w, i32_w]
        rfl
       refine pu 21 (some 38) ?_ ?_ ?_ ?_ ?_
       rotate_left 2
       ·intro w'
        go_simp
        with_reducible rfl
       ·simp only [Act.put, sA1, sA2, sA3, i64_w, i32_w]
        rfl
       refine pu 22 (some 39) ?_ ?_ ?_ ?_ ?_
       rotate_left 2
       ·intro w'
        go_simp
        with_reducible rfl
       ·simp only [Act.put, sA1, sA2, sA3, i64_w, i32_w]
        rfl
       refine tk 23 (some 40) ?_ ?_ hHeld ?_ ?_ ?_
       rotate_left 2
       ·rintro w' ⟨s0, s1, s2, s3, s4⟩
        go_simp
        with_reducible rfl
       ·simp only [Act.put, sA1, sA2, sA3, i64_w, i32_w]
        rfl
       refine pu 24 (some 41) ?_ ?_ ?_ ?_ ?_
       rotate_left 2
       ·intro w'
        go_simp
        with_reducible rfl
       ·simp only [Act.put, sA1, sA2, sA3, i64_w, i32_w]
        rfl
       refine pu 25 (some 42) ?_ ?_ ?_ ?_ ?_
       rotate_left 2
       ·intro w'
        go_simp
        with_reducible rfl
       ·simp only [Act.put, sA1, sA2, sA3, i64_w, i32_w]
        rfl
       refine pu 26 (some 43) ?_ ?_ ?_ ?_ ?_
       rotate_left 2
       ·intro w'
        go_simp
        with_reducible rfl
       ·simp only [Act.put, sA1, sA2, sA3, i64_w, i32_w]
        rfl
       refine done_ (by kernel_rfl) ?_
       have HB5 := am (below_call HBD.out HB3.out)
       go_wp2
       go_ret
       exact ⟨by unfold rowP; rw [if_pos (by omega), ← HE.out]; rfl, HB5.out⟩
      | true =>
       rw [hn, if_pos (by simp)] at hE
       rw [hn] at y1
       have HE0 := am hE
       clear hE
       refine start_ (n := 27) (S := fun w' => w'.cell? (ad.add (j * 3)) = some (.int .i64 v.f0) ∧ w'.cell? ⟨(ad.add (j * 3)).block, (ad.add (j * 3)).off + 1, none⟩ = some (.int .i64 v.f1) ∧ w'.cell? ⟨(ad.add (j * 3)).block, (ad.add (j * 3)).off + 2, none⟩ = some (.string v.f2) ∧ w'.cell? (bd.add (j * 3)) = some (.int .i64 c.f0) ∧ w'.cell? ⟨(bd.add (j * 3)).block, (bd.add (j * 3)).off + 1, none⟩ = some (.bool true)) (ds := []) #[false, false, false, false, false, false, false, false, false, false, false, false, false, false, false, false, false, false, false, false, false, false, false, false, false, false, false] (by kernel_rfl) rfl rfl ⟨x0, x1, x2, y0, y1⟩ (fun hHeld => ?_)
       generalize wr.drew = W2 at *
       refine pu 0 (some 17) ?_ ?_ ?_ ?_ ?_
       rotate_left 2
       ·intro w'
        go_simp
        with_reducible rfl
       ·simp only [Act.put, sA1, sA2, sA3, i64_w, i32_w]
        rfl
       refine pu 1 (some 18) ?_ ?_ ?_ ?_ ?_
       rotate_left 2
       ·intro w'
        go_simp
        with_reducible rfl
       ·simp only [Act.put, sA1, sA2, sA3, i64_w, i32_w]
        rfl
       refine pu 2 (some 19) ?_ ?_ ?_ ?_ ?_
       rotate_left 2
       ·intro w'
        go_simp
        with_reducible rfl
       ·simp only [Act.put, sA1, sA2, sA3, i64_w, i32_w]
        rfl
       refine pu 4 (some 21) ?_ ?_ ?_ ?_ ?_
       rotate_left 2
       ·intro w'
        go_simp
        with_reducible rfl
       ·simp only [Act.put, sA1, sA2, sA3, i64_w, i32_w]
        rfl
       refine pu 5 (some 22) ?_ ?_ ?_ ?_ ?_
       rotate_left 2
       ·intro w'
        go_simp
        with_reducible rfl
       ·simp only [Act.put, sA1, sA2, sA3, i64_w, i32_w]
        rfl
       refine pu 6 (some 23) ?_ ?_ ?_ ?_ ?_
       rotate_left 2
       ·intro w'
        go_simp
        with_reducible rfl
       ·simp only [Act.put, sA1, sA2, sA3, i64_w, i32_w]
        rfl
       refine pu 7 (some 24) ?_ ?_ ?_ ?_ ?_
       rotate_left 2
       ·intro w'
        go_simp
        with_reducible rfl
       ·simp only [Act.put, sA1, sA2, sA3, i64_w, i32_w]
        rfl
       refine tk 3 (some 20) ?_ ?_ hHeld ?_ ?_ ?_
       rotate_left 2
       ·rintro w' ⟨s0, s1, s2, s3, s4⟩
        go_simp
        with_reducible rfl
       ·simp only [Act.put, sA1, sA2, sA3, i64_w, i32_w]
        rfl
       refine tk 8 (some 25) ?_ ?_ hHeld ?_ ?_ ?_
       rotate_left 2
       ·rintro w' ⟨s0, s1, s2, s3, s4⟩
        go_simp
        with_reducible rfl
       ·simp only [Act.put, sA1, sA2, sA3, i64_w, i32_w]
        rfl
       refine on (i := 9) (N := some 26) rfl rfl (by kernel_rfl) (by decide) (fun K hK => ?_)
       refine goes_ Tryz.func84 (by kernel_rfl) rfl #[.agg #[.int .i64 v.f0, .int .i64 v.f1, .string v.f2], .int .i64 c.f0] (by rfl) rfl rfl (by simp only [List.map_toArray, List.map_cons, List.map_nil]; rfl) ?_
       with_reducible refine (refRight_calls v c.f0 W2).mono ?_
       rintro e w3 ⟨rfl, hb3⟩
       refine ⟨_, rfl, ?_⟩
       rw [HRT.out]
       have HB3 := am hb3
       clear hb3
       refine hK.out _ _ ⟨pw_cell_below HB3.out x0, pw_cell_below HB3.out x1, pw_cell_below HB3.out x2, pw_cell_below HB3.out y0, pw_cell_below HB3.out y1⟩ (fun hHeld => ?_)
       clear hK K
       refine norm_ (a' := ?_) ?_ ?_
       rotate_left
       ·show Act.put _ (some 26) _ = _
        simp only [Act.put, sA1, sA2, sA3, i64_w, i32_w]
        rfl
       refine pu 10 (some 27) ?_ ?_ ?_ ?_ ?_
       rotate_left 2
       ·intro w'
        go_simp
        with_reducible rfl
       ·simp only [Act.put, sA1, sA2, sA3, i64_w, i32_w]
        rfl
       refine pu 11 (some 28) ?_ ?_ ?_ ?_ ?_
       rotate_left 2
       ·intro w'
        go_simp
        with_reducible rfl
       ·simp only [Act.put, sA1, sA2, sA3, i64_w, i32_w]
        rfl
       refine pu 12 (some 29) ?_ ?_ ?_ ?_ ?_
       rotate_left 2
       ·intro w'
        go_simp
        with_reducible rfl
       ·simp only [Act.put, sA1, sA2, sA3, i64_w, i32_w]
        rfl
       refine pu 13 (some 30) ?_ ?_ ?_ ?_ ?_
       rotate_left 2
       ·intro w'
        go_simp
        with_reducible rfl
       ·simp only [Act.put, sA1, sA2, sA3, i64_w, i32_w]
        rfl
       refine pu 14 (some 31) ?_ ?_ ?_ ?_ ?_
       rotate_left 2
       ·intro w'
        go_simp
        with_reducible rfl
       ·simp only [Act.put, sA1, sA2, sA3, i64_w, i32_w]
        rfl
       refine pu 15 (some 32) ?_ ?_ ?_ ?_ ?_
       rotate_left 2
       ·intro w'
        go_simp
        with_reducible rfl
       ·simp only [Act.put, sA1, sA2, sA3, i64_w, i32_w]
        rfl
       refine tk 16 (some 33) ?_ ?_ hHeld ?_ ?_ ?_
       rotate_left 2
       ·rintro w' ⟨s0, s1, s2, s3, s4⟩
        go_simp
        with_reducible rfl
       ·simp only [Act.put, sA1, sA2, sA3, i64_w, i32_w]
        rfl
       refine pu 17 (some 34) ?_ ?_ ?_ ?_ ?_
       rotate_left 2
       ·intro w'
        go_simp
        with_reducible rfl
       ·simp only [Act.put, sA1, sA2, sA3, i64_w, i32_w]
        rfl
       refine pu 18 (some 35) ?_ ?_ ?_ ?_ ?_
       rotate_left 2
       ·intro w'
        go_simp
        with_reducible rfl
       ·simp only [Act.put, sA1, sA2, sA3, i64_w, i32_w]
        rfl
       refine pu 19 (some 36) ?_ ?_ ?_ ?_ ?_
       rotate_left 2
       ·intro w'
        go_simp
        with_reducible rfl
       ·simp only [Act.put, sA1, sA2, sA3, i64_w, i32_w]
        rfl
       refine pu 20 (some 37) ?_ ?_ ?_ ?_ ?_
       rotate_left 2
       ·intro w'
        go_simp
        with_reducible rfl
       ·simp only [Act.put, sA1, sA2, sA3, i64_w, i32_w]
        rfl
       refine pu 21 (some 38) ?_ ?_ ?_ ?_ ?_
       rotate_left 2
       ·intro w'
        go_simp
        with_reducible rfl
       ·simp only [Act.put, sA1, sA2, sA3, i64_w, i32_w]
        rfl
       refine pu 22 (some 39) ?_ ?_ ?_ ?_ ?_
       rotate_left 2
       ·intro w'
        go_simp
        with_reducible rfl
       ·simp only [Act.put, sA1, sA2, sA3, i64_w, i32_w]
        rfl
       refine tk 23 (some 40) ?_ ?_ hHeld ?_ ?_ ?_
       rotate_left 2
       ·rintro w' ⟨s0, s1, s2, s3, s4⟩
        go_simp
        with_reducible rfl
       ·simp only [Act.put, sA1, sA2, sA3, i64_w, i32_w]
        rfl
       refine pu 24 (some 41) ?_ ?_ ?_ ?_ ?_
       rotate_left 2
       ·intro w'
        go_simp
        with_reducible rfl
       ·simp only [Act.put, sA1, sA2, sA3, i64_w, i32_w]
        rfl
       refine pu 25 (some 42) ?_ ?_ ?_ ?_ ?_
       rotate_left 2
       ·intro w'
        go_simp
        with_reducible rfl
       ·simp only [Act.put, sA1, sA2, sA3, i64_w, i32_w]
        rfl
       refine pu 26 (some 43) ?_ ?_ ?_ ?_ ?_
       rotate_left 2
       ·intro w'
        go_simp
        with_reducible rfl
       ·simp only [Act.put, sA1, sA2, sA3, i64_w, i32_w]
        rfl
       refine done_ (by kernel_rfl) ?_
       have HB5 := am (below_call HBD.out HB3.out)
       have z2 := pw_cell_below HB3.out x2
       have hE := HE0.out
       by_cases hsz : (v.f2.size : Int) > 65536
       ·rw [if_pos hsz] at hE
        have HE := am hE
        clear hE
        go_wp2
        go_ret
        exact ⟨by unfold rowP; rw [if_pos (by omega), ← HE.out]; rfl, HB5.out⟩
       ·rw [if_neg hsz] at hE
        have HE := am hE
        clear hE
        go_wp2
        go_roundw
        case rel => exact ⟨j + 1, by omega, by go_num, ⟨HE.out.symm⟩, HB5⟩
        case measure => simp [intOf]; omega
     | false =>
      rw [hz, if_pos (by simp)] at hE
      have HE0 := am hE
      clear hE
      refine start_ (n := 27) (S := fun w' => w'.cell? (ad.add (j * 3)) = some (.int .i64 v.f0) ∧ w'.cell? ⟨(ad.add (j * 3)).block, (ad.add (j * 3)).off + 1, none⟩ = some (.int .i64 v.f1) ∧ w'.cell? ⟨(ad.add (j * 3)).block, (ad.add (j * 3)).off + 2, none⟩ = some (.string v.f2) ∧ w'.cell? (bd.add (j * 3)) = some (.int .i64 c.f0) ∧ w'.cell? ⟨(bd.add (j * 3)).block, (bd.add (j * 3)).off + 1, none⟩ = some (.bool c.f1)) (ds := []) #[false, false, false, false, false, false, false, false, false, false, false, false, false, false, false, false, false, false, false, false, false, false, false, false, false, false, false] (by kernel_rfl) rfl rfl ⟨x0, x1, x2, y0, y1⟩ (fun hHeld => ?_)
      generalize wr.drew = W2 at *
      refine pu 0 (some 17) ?_ ?_ ?_ ?_ ?_
      rotate_left 2
      ·intro w'
       go_simp
       with_reducible rfl
      ·simp only [Act.put, sA1, sA2, sA3, i64_w, i32_w]
       rfl
      refine pu 1 (some 18) ?_ ?_ ?_ ?_ ?_
      rotate_left 2
      ·intro w'
       go_simp
       with_reducible rfl
      ·simp only [Act.put, sA1, sA2, sA3, i64_w, i32_w]
       rfl
      refine pu 2 (some 19) ?_ ?_ ?_ ?_ ?_
      rotate_left 2
      ·intro w'
       go_simp
       with_reducible rfl
      ·simp only [Act.put, sA1, sA2, sA3, i64_w, i32_w]
       rfl
      refine pu 4 (some 21) ?_ ?_ ?_ ?_ ?_
      rotate_left 2
      ·intro w'
       go_simp
       with_reducible rfl
      ·simp only [Act.put, sA1, sA2, sA3, i64_w, i32_w]
       rfl
      refine pu 5 (some 22) ?_ ?_ ?_ ?_ ?_
      rotate_left 2
      ·intro w'
       go_simp
       with_reducible rfl
      ·simp only [Act.put, sA1, sA2, sA3, i64_w, i32_w]
       rfl
      refine pu 6 (some 23) ?_ ?_ ?_ ?_ ?_
      rotate_left 2
      ·intro w'
       go_simp
       with_reducible rfl
      ·simp only [Act.put, sA1, sA2, sA3, i64_w, i32_w]
       rfl
      refine pu 7 (some 24) ?_ ?_ ?_ ?_ ?_
      rotate_left 2
      ·intro w'
       go_simp
       with_reducible rfl
      ·simp only [Act.put, sA1, sA2, sA3, i64_w, i32_w]
       rfl
      refine tk 3 (some 20) ?_ ?_ hHeld ?_ ?_ ?_
      rotate_left 2
      ·rintro w' ⟨s0, s1, s2, s3, s4⟩
       go_simp
       with_reducible rfl
      ·simp only [Act.put, sA1, sA2, sA3, i64_w, i32_w]
       rfl
      refine tk 8 (some 25) ?_ ?_ hHeld ?_ ?_ ?_
      rotate_left 2
      ·rintro w' ⟨s0, s1, s2, s3, s4⟩
       go_simp
       with_reducible rfl
      ·simp only [Act.put, sA1, sA2, sA3, i64_w, i32_w]
       rfl
      refine on (i := 9) (N := some 26) rfl rfl (by kernel_rfl) (by decide) (fun K hK => ?_)
      refine goes_ Tryz.func84 (by kernel_rfl) rfl #[.agg #[.int .i64 v.f0, .int .i64 v.f1, .string v.f2], .int .i64 c.f0] (by rfl) rfl rfl (by simp only [List.map_toArray, List.map_cons, List.map_nil]; rfl) ?_
      with_reducible refine (refRight_calls v c.f0 W2).mono ?_
      rintro e w3 ⟨rfl, hb3⟩
      refine ⟨_, rfl, ?_⟩
      rw [HRT.out]
      have HB3 := am hb3
      clear hb3
      refine hK.out _ _ ⟨pw_cell_below HB3.out x0, pw_cell_below HB3.out x1, pw_cell_below HB3.out x2, pw_cell_below HB3.out y0, pw_cell_below HB3.out y1⟩ (fun hHeld => ?_)
      clear hK K
      refine norm_ (a' := ?_) ?_ ?_
      rotate_left
      ·show Act.put _ (some 26) _ = _
       simp only [Act.put, sA1, sA2, sA3, i64_w, i32_w]
       rfl
      refine pu 10 (some 27) ?_ ?_ ?_ ?_ ?_
      rotate_left 2
      ·intro w'
       go_simp
       with_reducible rfl
      ·simp only [Act.put, sA1, sA2, sA3, i64_w, i32_w]
       rfl
      refine pu 11 (some 28) ?_ ?_ ?_ ?_ ?_
      rotate_left 2
      ·intro w'
       go_simp
       with_reducible rfl
      ·simp only [Act.put, sA1, sA2, sA3, i64_w, i32_w]
       rfl
      refine pu 12 (some 29) ?_ ?_ ?_ ?_ ?_
      rotate_left 2
      ·intro w'
       go_simp
       with_reducible rfl
      ·simp only [Act.put, sA1, sA2, sA3, i64_w, i32_w]
       rfl
      refine pu 13 (some 30) ?_ ?_ ?_ ?_ ?_
      rotate_left 2
      ·intro w'
       go_simp
       with_reducible rfl
      ·simp only [Act.put, sA1, sA2, sA3, i64_w, i32_w]
       rfl
      refine pu 14 (some 31) ?_ ?_ ?_ ?_ ?_
      rotate_left 2
      ·intro w'
       go_simp
       with_reducible rfl
      ·simp only [Act.put, sA1, sA2, sA3, i64_w, i32_w]
       rfl
      refine pu 15 (some 32) ?_ ?_ ?_ ?_ ?_
      rotate_left 2
      ·intro w'
       go_simp
       with_reducible rfl
      ·simp only [Act.put, sA1, sA2, sA3, i64_w, i32_w]
       rfl
      refine tk 16 (some 33) ?_ ?_ hHeld ?_ ?_ ?_
      rotate_left 2
      ·rintro w' ⟨s0, s1, s2, s3, s4⟩
       go_simp
       with_reducible rfl
      ·simp only [Act.put, sA1, sA2, sA3, i64_w, i32_w]
       rfl
      refine pu 17 (some 34) ?_ ?_ ?_ ?_ ?_
      rotate_left 2
      ·intro w'
       go_simp
       with_reducible rfl
      ·simp only [Act.put, sA1, sA2, sA3, i64_w, i32_w]
       rfl
      refine pu 18 (some 35) ?_ ?_ ?_ ?_ ?_
      rotate_left 2
      ·intro w'
       go_simp
       with_reducible rfl
      ·simp only [Act.put, sA1, sA2, sA3, i64_w, i32_w]
       rfl
      refine pure_ (i := 19) (N := some 36) (v := undef) (a' := ?_) #[true, true, true, true, true, true, true, true, true, true, true, true, true, true, true, true, true, true, true, true, false, false, false, false, false, false, false] rfl rfl (by kernel_rfl) (fun _ _ _ h => h) (Or.inr ⟨by rfl, rfl⟩) ?_ ?_
      rotate_left
      ·simp only [Act.put, sA1, sA2, sA3, i64_w, i32_w]
       rfl
      refine pure_ (i := 20) (N := some 37) (v := undef) (a' := ?_) #[true, true, true, true, true, true, true, true, true, true, true, true, true, true, true, true, true, true, true, true, true, false, false, false, false, false, false] rfl rfl (by kernel_rfl) (fun _ _ _ h => h) (Or.inr ⟨by rfl, rfl⟩) ?_ ?_
      rotate_left
      ·simp only [Act.put, sA1, sA2, sA3, i64_w, i32_w]
       rfl
      refine pure_ (i := 21) (N := some 38) (v := undef) (a' := ?_) #[true, true, true, true, true, true, true, true, true, true, true, true, true, true, true, true, true, true, true, true, true, true, false, false, false, false, false] rfl rfl (by kernel_rfl) (fun _ _ _ h => h) (Or.inr ⟨by rfl, rfl⟩) ?_ ?_
      rotate_left
      ·simp only [Act.put, sA1, sA2, sA3, i64_w, i32_w]
       rfl
      refine pure_ (i := 22) (N := some 39) (v := undef) (a' := ?_) #[true, true, true, true, true, true, true, true, true, true, true, true, true, true, true, true, true, true, true, true, true, true, true, false, false, false, false] rfl rfl (by kernel_rfl) (fun _ _ _ h => h) (Or.inr ⟨by rfl, rfl⟩) ?_ ?_
      rotate_left
      ·simp only [Act.put, sA1, sA2, sA3, i64_w, i32_w]
       rfl
      refine pure_ (i := 23) (N := some 40) (v := undef) (a' := ?_) #[true, true, true, true, true, true, true, true, true, true, true, true, true, true, true, true, true, true, true, true, true, true, true, true, false, false, false] rfl rfl (by kernel_rfl) (fun _ _ _ h => h) (Or.inr ⟨by rfl, rfl⟩) ?_ ?_
      rotate_left
      ·simp only [Act.put, sA1, sA2, sA3, i64_w, i32_w]
       rfl
      refine pure_ (i := 24) (N := some 41) (v := undef) (a' := ?_) #[true, true, true, true, true, true, true, true, true, true, true, true, true, true, true, true, true, true, true, true, true, true, true, true, true, false, false] rfl rfl (by kernel_rfl) (fun _ _ _ h => h) (Or.inr ⟨by rfl, rfl⟩) ?_ ?_
      rotate_left
      ·simp only [Act.put, sA1, sA2, sA3, i64_w, i32_w]
       rfl
      refine pu 25 (some 42) ?_ ?_ ?_ ?_ ?_
      rotate_left 2
      ·intro w'
       go_simp
       with_reducible rfl
      ·simp only [Act.put, sA1, sA2, sA3, i64_w, i32_w]
       rfl
      refine pu 26 (some 43) ?_ ?_ ?_ ?_ ?_
      rotate_left 2
      ·intro w'
       go_simp
       with_reducible rfl
      ·simp only [Act.put, sA1, sA2, sA3, i64_w, i32_w]
       rfl
      refine done_ (by kernel_rfl) ?_
      have HB5 := am (below_call HBD.out HB3.out)
      have z2 := pw_cell_below HB3.out x2
      have hE := HE0.out
      by_cases hsz : (v.f2.size : Int) > 65536
      ·rw [if_pos hsz] at hE
       have HE := am hE
       clear hE
       go_wp2
       go_ret
       exact ⟨by unfold rowP; rw [if_pos (by omega), ← HE.out]; rfl, HB5.out⟩
      ·rw [if_neg hsz] at hE
       have HE := am hE
       clear hE
       go_wp2
       go_roundw
       case rel => exact ⟨j + 1, by omega, by go_num, ⟨HE.out.symm⟩, HB5⟩
       case measure => simp [intOf]; omega
   ·obtain rfl : j = r.length := by omega
    go_wp2
    go_ret
    exact ⟨by unfold rowP; rw [if_pos (by omega), ← HX.out, rowL_nil _ _ _ (Nat.le_refl _)]; rfl, HB.out⟩
end
end Go.Proofs.YtjmhiklmlgbifaaGreatDoor.PMan

-- Printed for this claim by a program of this session's own (it runs the kit's print another way): Lean checks it.
import Derived.Test.YtibdikihgdkfnaaGreatDoorPStox0
import Derived.Test.YtibdikihgdkfnaaGreatDoorPStox2
import Derived.Test.YtibdikihgdkfnaaGreatDoorPStox12
import Derived.Test.YtibdikihgdkfnaaGreatDoorPStox14
namespace Go.Proofs.YtibdikihgdkfnaaGreatDoor.PSto
open Go.RowKit Go.Proofs.YtibdikihgdkfnaaGreatDoorW.PrintWords Go.Proofs.YtibdikihgdkfnaaGreatDoorW.PrintLast Go.Proofs.YtibdikihgdkfnaaGreatDoorW.PrintMore
attribute [local go_sem] max2_int min2_int max_two min_two max_three min_three max_four min_four   -- for this text's walks alone
set_option linter.unusedVariables false
set_option linter.unusedSimpArgs false

/-! ### num_Reader_Take: function 208 -/
/-- r.Take(n): the bytes, and what becomes of the reader. -/
def num_Reader_Take.f (s0 : List Int) (s1 s2 s3 : Int) (a1 : Int) : Option (List Int × Int × Int × Int) :=
  if s2 = 0 then
    if a1 < 0 then some ([], s1, 1, s1)
    else if 0 ≤ s1 then
      if s1 ≤ (s0.length : Int) then
        if (s0.length : Int) - s1 < a1 then some ([], s1, 2, s1)
        else if s0.length < 140737488355328 then some ((s0.take (s1 + a1).toNat).drop s1.toNat, s1 + a1, 0, s3) else none
      else none
    else none
  else some ([], s1, s2, s3)
set_option maxHeartbeats 800000 in
set_option maxRecDepth 100000 in
theorem rd_take_err (g : Nat) (s0 : List Int) (s1 s2 s3 a1 : Int) (w0 w : World) (hI : RD w0 w g s0 s1 s2 s3) (hn : s2 ≠ 0) :
    Calls Tryz.prog 208 #[.pointer (some ⟨g, 0, none⟩), .int .i64 a1] w fun e w' => e = .returned (.slice none 0 0) ∧ w = w' := by
  have HI := Aside0.mk hI
  have hf := beq_eq_false_iff_ne.2 hn
  clear hI hn
  go_enter Tryz.func208, Tryz.ntmps208
  go_wp2_with fail
  refine (rd_ok g s0 _ _ _ w0 _ HI.out).mono ?_
  rintro e w' ⟨rfl, rfl⟩
  go_wp2
  go_ret
  exact ⟨rfl, rfl⟩
set_option maxHeartbeats 800000 in
set_option maxRecDepth 100000 in
theorem rd_take_neg (g : Nat) (s0 : List Int) (s1 s3 a1 : Int) (w0 w : World) (hI : RD w0 w g s0 s1 0 s3) (hn : a1 < 0) :
    Calls Tryz.prog 208 #[.pointer (some ⟨g, 0, none⟩), .int .i64 a1] w fun e w' => e = .returned (.slice none 0 0) ∧ RD w0 w' g s0 s1 1 s1 ∧ KeepBut w w' g none ∧ Below w0.heap.size w w' := by
  have HI := Aside0.mk hI
  clear hI
  go_enter Tryz.func208, Tryz.ntmps208
  go_wp2_with fail
  refine (rd_ok g s0 _ _ _ w0 _ HI.out).mono ?_
  rintro e w' ⟨rfl, rfl⟩
  go_wp2_with fail
  refine (rd_fail_yes g s0 s1 s3 1 w0 _ HI.out (by decide)).mono ?_
  rintro e w' ⟨rfl, h⟩
  have H := Aside0.mk h
  clear h
  go_wp2
  go_ret
  exact ⟨rfl, H.out⟩
set_option maxHeartbeats 800000 in
set_option maxRecDepth 100000 in
theorem rd_take_short (g : Nat) (s0 : List Int) (s1 s3 a1 : Int) (w0 w : World) (hI : RD w0 w g s0 s1 0 s3) (h0 : 0 ≤ s1) (h1 : s1 ≤ (s0.length : Int)) (hn : (s0.length : Int) - s1 < a1) :
    Calls Tryz.prog 208 #[.pointer (some ⟨g, 0, none⟩), .int .i64 a1] w fun e w' => e = .returned (.slice none 0 0) ∧ RD w0 w' g s0 s1 2 s1 ∧ KeepBut w w' g none ∧ Below w0.heap.size w w' := by
  have HI := Aside0.mk hI
  have hm : s0.length ≤ 9223372036854775807 := by obtain ⟨_, _, _, _, _, hc, _⟩ := hI; exact Kd.C_max hc
  have hw : wrap64 ((s0.length : Int) - s1) = (s0.length : Int) - s1 := by unfold wrap64; omega
  have ha : ¬ (a1 < 0) := by omega
  have HW := Aside0.mk hw
  clear hI hw hm h0 h1
  go_enter Tryz.func208, Tryz.ntmps208
  go_wp2_with fail
  refine (rd_ok g s0 _ _ _ w0 _ HI.out).mono ?_
  rintro e w' ⟨rfl, rfl⟩
  go_wp2_with fail
  refine (rd_left g s0 s1 0 s3 w0 _ HI.out).mono ?_
  rintro e w' ⟨rfl, ⟨nd, rfl⟩⟩
  rw [HW.out]
  go_wp2_with fail
  refine (rd_fail_yes g s0 s1 s3 2 w0 _ (HI.out.drewN nd) (by decide)).mono ?_
  rintro e w' ⟨rfl, h⟩
  have H := Aside0.mk h
  clear h
  go_wp2
  go_ret
  exact ⟨rfl, H.out.1, H.out.2.1, (Below.trans (pw_below_drewN (Below.refl _ w) nd) H.out.2.2)⟩
set_option maxHeartbeats 1600000 in
set_option maxRecDepth 100000 in
theorem rd_take_yes (g : Nat) (s0 : List Int) (s1 s3 a1 : Int) (w0 w : World) (hI : RD w0 w g s0 s1 0 s3) (h0 : 0 ≤ s1) (h1 : 0 ≤ a1) (h2 : a1 ≤ (s0.length : Int) - s1) (hl : s0.length < 140737488355328) (hB : Below w0.heap.size w0 w) :
    Calls Tryz.prog 208 #[.pointer (some ⟨g, 0, none⟩), .int .i64 a1] w fun e w' => ∃ v, e = .returned v ∧ Kd.R (Kd.int .u8) 5 w' w.heap.size (fun _ => True) v ((s0.take (s1 + a1).toNat).drop s1.toNat) ∧ RD w0 w' g s0 (s1 + a1) 0 s3 ∧ KeepBut w w' g none ∧ Below w0.heap.size w w' := by
  have HI := Aside0.mk hI
  have hw : wrap64 ((s0.length : Int) - s1) = (s0.length : Int) - s1 := by unfold wrap64; omega
  have hw2 : IntKind.i64.wrap (s1 + a1) = s1 + a1 := by rw [IntKind.wrap_i64]; omega
  have hw3 : IntKind.i64.wrap s1 = s1 := by rw [IntKind.wrap_i64]; omega
  have ha : ¬ (a1 < 0) := by omega
  have hx : ¬ ((s0.length : Int) - s1 < a1) := by omega
  have HW := Aside0.mk hw
  have HL := Aside0.mk hl
  have HB := Aside0.mk hB
  obtain ⟨A, c, ev, k1, k2, k3, k4, k5⟩ := hI
  obtain ⟨i0, hi0, hz0⟩ := Option.map_eq_some_iff.1 clone_info
  simp only [Prod.mk.injEq] at hz0
  obtain ⟨A', hcut, hcr, hcl⟩ := print_mid_int (P := Tryz.prog) (k := .u8) 49 5 Tryz.underlying49 hi0 hz0.2.1 A c s0 s1 (s1 + a1) h0 (by omega) (by omega) k4
  have hc0 := blk_cell k1 0
  have hc1 := blk_cell k1 1
  have hf1 := blk_frozen k1 1
  simp only [List.getElem?_toArray] at hc0 hc1
  have K1 := Aside0.mk k1
  have K2 := Aside0.mk k2
  have KR := Aside0.mk (Kd.C_of_reads (d := (0 : Int)) (h1 := fun _ => rfl) (hcr w0 (Kd.reads_of_C k3)))
  have KC := Aside0.mk hcl
  have HLN : Aside0 (((s0.take (s1 + a1).toNat).drop s1.toNat).length < 140737488355328) := ⟨by rw [List.length_drop, List.length_take]; omega⟩
  clear hw hl hB k1 k2 k3 k4 k5 h0 h1 h2 hcr hcl hz0 hi0
  generalize (s0.take (s1 + a1).toNat).drop s1.toNat = out at *
  go_enter Tryz.func208, Tryz.ntmps208
  go_wp2_with fail
  refine (rd_ok g s0 _ _ _ w0 _ HI.out).mono ?_
  rintro e w' ⟨rfl, rfl⟩
  go_wp2_with fail
  refine (rd_left g s0 s1 0 s3 w0 _ HI.out).mono ?_
  rintro e w' ⟨rfl, ⟨nd, rfl⟩⟩
  rw [HW.out]
  go_wp2_with fail
  have hblk := blk_set (blk_drewN K1.out nd) 1 (.int .i64 (s1 + a1))
  have hsz : w.heap.size ≤ ((w.drewN nd).setCell ⟨g, 1, none⟩ (.int .i64 (s1 + a1))).heap.size := by simp
  have hkb : KeepBut w ((w.drewN nd).setCell ⟨g, 1, none⟩ (.int .i64 (s1 + a1))) g none := (KeepBut.of_below (pw_below_drewN (Below.refl _ w) nd) g none).set_ 1 _
  have hbb : Below w0.heap.size w ((w.drewN nd).setCell ⟨g, 1, none⟩ (.int .i64 (s1 + a1))) := (pw_below_drewN (Below.refl _ w) nd).setCell K2.out _
  have hrd : RD w0 ((w.drewN nd).setCell ⟨g, 1, none⟩ (.int .i64 (s1 + a1))) g s0 (s1 + a1) 0 s3 := (HI.out.drewN nd).set_at _
  generalize (w.drewN nd).setCell ⟨g, 1, none⟩ (.int .i64 (s1 + a1)) = W1 at *
  have hc0 := blk_cell hblk 0
  have hc1 := blk_cell hblk 1
  simp only [List.setIfInBounds_toArray, List.set_cons_succ, List.set_cons_zero, List.getElem?_toArray] at hc0 hc1
  have HSZ := Aside0.mk hsz
  have HKB := Aside0.mk hkb
  have HBB := Aside0.mk hbb
  have HRD := Aside0.mk hrd
  clear hblk hsz hkb hbb hrd hf1
  refine wp_region_still_tail 15 (by kernel_rfl) (by kernel_rfl) ?_
  show wpStill _ _ W1.drew _ _ _
  simp only [List.take_succ_cons, List.take_zero, List.drop_succ_cons, List.drop_zero]
  iterate 15 still_step
  refine wpStill_nil ?_
  show wpList _ _ _ _ _ W1.drew
  go_wp2_with fail
  refine (bytes_Clone.calls A' (c - s1.toNat) out out _ (Kd.C_drew (Kd.C_below KR.out (HB.out.trans HBB.out))) KC.out (by unfold bytes_Clone.f; rw [if_pos HLN.out])).mono ?_
  rintro e w' ⟨v, rfl, hr, hb⟩
  have HR := Aside0.mk hr
  have HBW := Aside0.mk hb
  clear hr hb
  go_wp2
  go_ret
  refine ⟨_, rfl, ?_, HRD.out.drew.below HBW.out, KeepBut.below_ HKB.out (below_drew (Below.refl _ W1) |>.trans HBW.out), ?_⟩
  · exact Kd.R_lower HR.out HSZ.out
  · exact HBB.out.trans ((below_drew (Below.refl _ W1)).trans (HBW.out.mono (by have := HBB.out.size; have := HB.out.size; simp; omega)))
theorem num_Reader_Take.calls (g : Nat) (s0 : List Int) (s1 s2 s3 : Int) (a1 : Int) (r1 : List Int) (r2 r3 r4 : Int) (w0 w : World) (hI : RD w0 w g s0 s1 s2 s3) (hB : Below w0.heap.size w0 w) (h : num_Reader_Take.f s0 s1 s2 s3 a1 = some (r1, r2, r3, r4)) :
    Calls Tryz.prog 208 #[.pointer (some ⟨g, 0, none⟩), .int .i64 a1] w fun e w' => ∃ v0_ : Value, e = .returned v0_ ∧ Kd.R (Kd.int .u8) 5 w' w.heap.size (fun _ => True) v0_ r1 ∧ RD w0 w' g s0 r2 r3 r4 ∧ Below w0.heap.size w0 w' ∧ KeepBut w w' g none := by
  unfold num_Reader_Take.f at h
  by_cases h2 : s2 = 0
  · rw [if_pos h2] at h
    subst h2
    by_cases hn : a1 < 0
    · rw [if_pos hn] at h
      have h := Option.some.inj h
      simp only [Prod.mk.injEq] at h
      obtain ⟨rfl, rfl, rfl, rfl⟩ := h
      refine (rd_take_neg g s0 _ s3 a1 w0 w hI hn).mono ?_
      rintro e w' ⟨rfl, h1, h2, h3⟩
      exact ⟨_, rfl, Kd.R_nil _ _ _ _ _, h1, hB.trans h3, h2⟩
    · rw [if_neg hn] at h
      by_cases h0 : 0 ≤ s1
      · rw [if_pos h0] at h
        by_cases h1 : s1 ≤ (s0.length : Int)
        · rw [if_pos h1] at h
          by_cases hs : (s0.length : Int) - s1 < a1
          · rw [if_pos hs] at h
            have h := Option.some.inj h
            simp only [Prod.mk.injEq] at h
            obtain ⟨rfl, rfl, rfl, rfl⟩ := h
            refine (rd_take_short g s0 _ s3 a1 w0 w hI h0 h1 hs).mono ?_
            rintro e w' ⟨rfl, h1, h2, h3⟩
            exact ⟨_, rfl, Kd.R_nil _ _ _ _ _, h1, hB.trans h3, h2⟩
          · rw [if_neg hs] at h
            by_cases hl : s0.length < 140737488355328
            · rw [if_pos hl] at h
              have h := Option.some.inj h
              simp only [Prod.mk.injEq] at h
              obtain ⟨rfl, rfl, rfl, rfl⟩ := h
              refine (rd_take_yes g s0 s1 _ a1 w0 w hI h0 (by omega) (by omega) hl hB).mono ?_
              rintro e w' ⟨v, rfl, hr, h1, h2, h3⟩
              exact ⟨v, rfl, hr, h1, hB.trans h3, h2⟩
            · rw [if_neg hl] at h
              cases h
        · rw [if_neg h1] at h
          cases h
      · rw [if_neg h0] at h
        cases h
  · rw [if_neg h2] at h
    have h := Option.some.inj h
    simp only [Prod.mk.injEq] at h
    obtain ⟨rfl, rfl, rfl, rfl⟩ := h
    refine (rd_take_err g s0 _ _ _ a1 w0 w hI h2).mono ?_
    rintro e w' ⟨rfl, rfl⟩
    exact ⟨_, rfl, Kd.R_nil _ _ _ _ _, hI, hB, KeepBut.refl _ _ _⟩

end Go.Proofs.YtibdikihgdkfnaaGreatDoor.PSto

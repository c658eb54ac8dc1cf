/- Texts of this proof, put into one, without what it does not use: MtC, MtD, MtE. -/
import Derived.Test.YtjmhiklmlgbifaaGreatDoorPB31
section
namespace Go.Proofs.YtjmhiklmlgbifaaGreatDoor.PMan
open Go.RowKit Go.Proofs.YtjmhiklmlgbifaaGreatDoorW.PrintWords Go.Proofs.YtjmhiklmlgbifaaGreatDoorW.PrintLast Go.Proofs.YtjmhiklmlgbifaaGreatDoorW.PrintMore
set_option linter.unusedVariables false
set_option linter.unusedSimpArgs false
/-- What is wrong with a blob's length. -/
def blobE (len most s1 v n e : Int) : Int := if e = 0 then (if v > most then 12 else if v > len - s1 - n then 2 else 0) else e
/-- A blob taken: its bytes, the reader's place, error and that one's place. -/
def blobS (s0 : List Int) (most s1 s2 s3 : Int) : List Int × Int × Int × Int :=
  if s2 = 0 then
    (if blobE s0.length most s1 (shortP (s0.drop s1.toNat)).1 (shortP (s0.drop s1.toNat)).2.1 (shortP (s0.drop s1.toNat)).2.2 = 0 then
      ((s0.take (s1 + (shortP (s0.drop s1.toNat)).2.1 + (shortP (s0.drop s1.toNat)).1).toNat).drop (s1 + (shortP (s0.drop s1.toNat)).2.1).toNat, s1 + (shortP (s0.drop s1.toNat)).2.1 + (shortP (s0.drop s1.toNat)).1, 0, s3)
    else ([], s1, blobE s0.length most s1 (shortP (s0.drop s1.toNat)).1 (shortP (s0.drop s1.toNat)).2.1 (shortP (s0.drop s1.toNat)).2.2, s1))
  else ([], s1, s2, s3)
set_option maxHeartbeats 1600000 in
set_option maxRecDepth 100000 in
theorem rdBlob_calls (g : Nat) (s0 : List Int) (most s1 s2 s3 : Int) (w0 w : World) (hI : RD w0 w g s0 s1 s2 s3) (hB : Below w0.heap.size w0 w) (h0 : 0 ≤ s1) (h1 : s1 ≤ s0.length) (hb : s0.length < 1000000000) (hby : ByteL s0) (hm0 : 0 ≤ most) (hm1 : most ≤ 1000000) :
    Calls Tryz.prog 93 #[.pointer (some ⟨g, 0, none⟩), .int .i64 most] w fun e w' => ∃ vv, e = .returned vv ∧ Kd.R (Kd.int .u8) 5 w' w.heap.size (fun _ => True) vv (blobS s0 most s1 s2 s3).1 ∧ RD w0 w' g s0 (blobS s0 most s1 s2 s3).2.1 (blobS s0 most s1 s2 s3).2.2.1 (blobS s0 most s1 s2 s3).2.2.2 ∧ Below w0.heap.size w0 w' ∧ KeepBut w w' g none := by
  obtain ⟨r, hr⟩ : ∃ r, r = blobS s0 most s1 s2 s3 := ⟨_, rfl⟩
  rw [← hr]
  have HI := Aside0.mk hI
  have HB := Aside0.mk hB
  by_cases hs2 : s2 = 0
  · subst hs2
    obtain rfl := hI.zero
    have hsp := short_p (s0.drop s1.toNat) (hby.drop _) (by rw [List.length_drop]; omega)
    have hsf := shortP_facts (s0.drop s1.toNat) (hby.drop _)
    have hlen : (s0.drop s1.toNat).length = s0.length - s1.toNat := List.length_drop
    unfold blobS at hr
    rw [if_pos rfl] at hr
    obtain ⟨A, c, ev, k1, k2, k3, k4, k5⟩ := hI
    obtain ⟨i0, hi0, hz0⟩ := Option.map_eq_some_iff.1 clone_info
    simp only [Prod.mk.injEq] at hz0
    obtain ⟨A', hcut, hcr, hcl⟩ := print_cut_int (P := Tryz.prog) (k := .u8) 30 5 Tryz.underlying30 hi0 hz0.2.1 A c s0 s1 h0 h1 k4
    have hc0 := blk_cell k1 0
    have hc1 := blk_cell k1 1
    simp only [List.getElem?_toArray] at hc0 hc1
    have K1 := Aside0.mk k1
    have K2 := Aside0.mk k2
    have KR := Aside0.mk (show Kd.C (Kd.int .u8) w0 A' (s0.drop s1.toNat).length (s0.drop s1.toNat) from Kd.C_of_reads (d := (0 : Int)) (h1 := fun _ => rfl) (hcr w0 (Kd.reads_of_C k3)))
    have KR2 : Aside0 (Kd.C (Kd.int .u8) w.drew A' (s0.drop s1.toNat).length (s0.drop s1.toNat)) := Aside0.mk (Kd.C_below KR.out (below_drew hB))
    have KC := Aside0.mk hcl
    have HL := Aside0.mk hlen
    clear hB k1 k2 k3 k4 k5 hcr hcl hz0 hi0 hby hlen
    generalize s0.drop s1.toNat = out at *
    obtain ⟨v, n, ec, hq⟩ : ∃ v n ec, shortP out = (v, n, ec) := ⟨_, _, _, rfl⟩
    rw [hq] at hr hsp hsf
    have KS := Aside0.mk hsp
    have HR := Aside0.mk hr
    have HF := Aside0.mk hsf
    clear hsp hr hsf
    go_enter Tryz.func93, Tryz.ntmps93
    go_wp2_with fail
    refine (rd_ok g s0 _ _ _ w0 _ HI.out).mono ?_
    rintro e w' ⟨rfl, rfl⟩
    go_wp2_with fail
    have hc0 : w.drew.cell? ⟨g, 0, none⟩ = some (.slice A s0.length c) := hc0
    have hc1 : w.drew.cell? ⟨g, 1, none⟩ = some (.int .i64 s1) := hc1
    have HID := Aside0.mk (HI.out.below (below_drew (Below.refl _ _)))
    have HBD := Aside0.mk (HB.out.trans ((below_drew (Below.refl w.heap.size w)).mono HB.out.size))
    have HKD := Aside0.mk (KeepBut.of_below (below_drew (Below.refl w.heap.size w)) g none)
    refine start_ (n := 17) (S := fun w' => w'.cell? ⟨g, 0, none⟩ = some (.slice A s0.length c) ∧ w'.cell? ⟨g, 1, none⟩ = some (.int .i64 s1)) (ds := []) #[false, false, false, false, false, false, false, false, false, false, false, false, false, false, false, false, false] (by kernel_rfl) rfl rfl ⟨hc0, hc1⟩ (fun hHeld => ?_)
    generalize w.drew = W2 at *
    refine pure_ (i := 0) (N := some 12) (v := ?_) (a' := ?_) #[true, false, false, false, false, false, false, false, false, false, false, false, false, false, false, false, false] rfl rfl (by kernel_rfl) (fun _ _ _ h => h) (Or.inl ⟨by rfl, ?_⟩) ?_ ?_
    rotate_left
    · intro w'
      go_simp
      with_reducible rfl
    rotate_left
    · simp only [Act.put, List.setIfInBounds_toArray, List.set_cons_zero, List.set_cons_succ, i64_w, i32_w]
      rfl
    refine pure_ (i := 1) (N := some 13) (v := ?_) (a' := ?_) #[true, true, false, false, false, false, false, false, false, false, false, false, false, false, false, false, false] rfl rfl (by kernel_rfl) (fun _ _ _ h => h) (Or.inl ⟨by rfl, ?_⟩) ?_ ?_
    rotate_left
    · intro w'
      go_simp
      with_reducible rfl
    rotate_left
    · simp only [Act.put, List.setIfInBounds_toArray, List.set_cons_zero, List.set_cons_succ, i64_w, i32_w]
      rfl
    refine pure_ (i := 2) (N := some 14) (v := ?_) (a' := ?_) #[true, true, true, false, false, false, false, false, false, false, false, false, false, false, false, false, false] rfl rfl (by kernel_rfl) (fun _ _ _ h => h) (Or.inl ⟨by rfl, ?_⟩) ?_ ?_
    rotate_left
    · intro w'
      go_simp
      with_reducible rfl
    rotate_left
    · simp only [Act.put, List.setIfInBounds_toArray, List.set_cons_zero, List.set_cons_succ, i64_w, i32_w]
      rfl
    refine pure_ (i := 4) (N := some 16) (v := ?_) (a' := ?_) #[true, true, true, false, true, false, false, false, false, false, false, false, false, false, false, false, false] rfl rfl (by kernel_rfl) (fun _ _ _ h => h) (Or.inl ⟨by rfl, ?_⟩) ?_ ?_
    rotate_left
    · intro w'
      go_simp
      with_reducible rfl
    rotate_left
    · simp only [Act.put, List.setIfInBounds_toArray, List.set_cons_zero, List.set_cons_succ, i64_w, i32_w]
      rfl
    refine pure_ (i := 5) (N := some 17) (v := ?_) (a' := ?_) #[true, true, true, false, true, true, false, false, false, false, false, false, false, false, false, false, false] rfl rfl (by kernel_rfl) (fun _ _ _ h => h) (Or.inl ⟨by rfl, ?_⟩) ?_ ?_
    rotate_left
    · intro w'
      go_simp
      with_reducible rfl
    rotate_left
    · simp only [Act.put, List.setIfInBounds_toArray, List.set_cons_zero, List.set_cons_succ, i64_w, i32_w]
      rfl
    refine pure_ (i := 6) (N := some 18) (v := ?_) (a' := ?_) #[true, true, true, false, true, true, true, false, false, false, false, false, false, false, false, false, false] rfl rfl (by kernel_rfl) (fun _ _ _ h => h) (Or.inl ⟨by rfl, ?_⟩) ?_ ?_
    rotate_left
    · intro w'
      go_simp
      with_reducible rfl
    rotate_left
    · simp only [Act.put, List.setIfInBounds_toArray, List.set_cons_zero, List.set_cons_succ, i64_w, i32_w]
      rfl
    refine take_ (i := 3) (N := some 15) (v := ?_) (a' := ?_) #[true, true, true, true, true, true, true, false, false, false, false, false, false, false, false, false, false] rfl rfl (by kernel_rfl) (fun _ _ _ h => h) (Or.inl ⟨by rfl, ?_⟩) hHeld ?_ ?_
    rotate_left
    · rintro w' ⟨s0, s1⟩
      go_simp
      with_reducible rfl
    rotate_left
    · simp only [Act.put, List.setIfInBounds_toArray, List.set_cons_zero, List.set_cons_succ, i64_w, i32_w]
      rfl
    refine take_ (i := 7) (N := some 19) (v := ?_) (a' := ?_) #[true, true, true, true, true, true, true, true, false, false, false, false, false, false, false, false, false] rfl rfl (by kernel_rfl) (fun _ _ _ h => h) (Or.inl ⟨by rfl, ?_⟩) hHeld ?_ ?_
    rotate_left
    · rintro w' ⟨s0, s1⟩
      go_simp
      with_reducible rfl
    rotate_left
    · simp only [Act.put, List.setIfInBounds_toArray, List.set_cons_zero, List.set_cons_succ, i64_w, i32_w]
      rfl
    refine pure_ (i := 8) (N := some 20) (v := ?_) (a' := ?_) #[true, true, true, true, true, true, true, true, true, false, false, false, false, false, false, false, false] rfl rfl (by kernel_rfl) (fun _ _ _ h => h) (Or.inl ⟨by rfl, ?_⟩) ?_ ?_
    rotate_left
    · intro w'
      go_simp
      with_reducible rfl
    rotate_left
    · simp only [Act.put, List.setIfInBounds_toArray, List.set_cons_zero, List.set_cons_succ, i64_w, i32_w]
      rfl
    refine one_ (i := 9) (N := some 21) #[true, true, true, true, true, true, true, true, true, true, false, false, false, false, false, false, false] rfl rfl (by kernel_rfl) (by decide) (fun K hK => ?_)
    refine goes_ Tryz.func125 (by kernel_rfl) rfl #[.slice A' out.length (c - s1.toNat)] (by rfl) rfl rfl (by simp only [List.map_toArray, List.map_cons, List.map_nil]; rfl) ?_
    with_reducible refine (num_short.calls _ A' _ out _ _ _ W2 KR2.out KC.out KS.out).mono ?_
    rintro e w3 ⟨rfl, ⟨nd, rfl⟩⟩
    refine ⟨_, rfl, ?_⟩
    have HB3 := Aside0.mk (pw_below_drewN (Below.refl W2.heap.size W2) nd)
    generalize W2.drewN nd = W3 at *
    refine hK.out _ _ ⟨pw_cell_below HB3.out hc0, pw_cell_below HB3.out hc1⟩ (fun hHeld => ?_)
    clear hK K
    refine norm_ (a' := ?_) ?_ ?_
    rotate_left
    · show Act.put _ (some 21) _ = _
      simp only [Act.put, List.setIfInBounds_toArray, List.set_cons_zero, List.set_cons_succ, i64_w, i32_w]
      rfl
    refine pure_ (i := 10) (N := some 11) (v := ?_) (a' := ?_) #[true, true, true, true, true, true, true, true, true, true, true, false, false, false, false, false, false] rfl rfl (by kernel_rfl) (fun _ _ _ h => h) (Or.inl ⟨by rfl, ?_⟩) ?_ ?_
    rotate_left
    · intro w'
      go_simp
      with_reducible rfl
    rotate_left
    · simp only [Act.put, List.setIfInBounds_toArray, List.set_cons_zero, List.set_cons_succ, i64_w, i32_w]
      rfl
    refine pure_ (i := 11) (N := some 22) (v := ?_) (a' := ?_) #[true, true, true, true, true, true, true, true, true, true, true, true, false, false, false, false, false] rfl rfl (by kernel_rfl) (fun _ _ _ h => h) (Or.inl ⟨by rfl, ?_⟩) ?_ ?_
    rotate_left
    · intro w'
      go_simp
      with_reducible rfl
    rotate_left
    · simp only [Act.put, List.setIfInBounds_toArray, List.set_cons_zero, List.set_cons_succ, i64_w, i32_w]
      rfl
    refine pure_ (i := 12) (N := some 23) (v := ?_) (a' := ?_) #[true, true, true, true, true, true, true, true, true, true, true, true, true, false, false, false, false] rfl rfl (by kernel_rfl) (fun _ _ _ h => h) (Or.inl ⟨by rfl, ?_⟩) ?_ ?_
    rotate_left
    · intro w'
      go_simp
      with_reducible rfl
    rotate_left
    · simp only [Act.put, List.setIfInBounds_toArray, List.set_cons_zero, List.set_cons_succ, i64_w, i32_w]
      rfl
    refine pure_ (i := 13) (N := some 24) (v := ?_) (a' := ?_) #[true, true, true, true, true, true, true, true, true, true, true, true, true, true, false, false, false] rfl rfl (by kernel_rfl) (fun _ _ _ h => h) (Or.inl ⟨by rfl, ?_⟩) ?_ ?_
    rotate_left
    · intro w'
      go_simp
      with_reducible rfl
    rotate_left
    · simp only [Act.put, List.setIfInBounds_toArray, List.set_cons_zero, List.set_cons_succ, i64_w, i32_w]
      rfl
    refine pure_ (i := 14) (N := some 5) (v := ?_) (a' := ?_) #[true, true, true, true, true, true, true, true, true, true, true, true, true, true, true, false, false] rfl rfl (by kernel_rfl) (fun _ _ _ h => h) (Or.inl ⟨by rfl, ?_⟩) ?_ ?_
    rotate_left
    · intro w'
      go_simp
      with_reducible rfl
    rotate_left
    · simp only [Act.put, List.setIfInBounds_toArray, List.set_cons_zero, List.set_cons_succ, i64_w, i32_w]
      rfl
    refine pure_ (i := 15) (N := some 6) (v := ?_) (a' := ?_) #[true, true, true, true, true, true, true, true, true, true, true, true, true, true, true, true, false] rfl rfl (by kernel_rfl) (fun _ _ _ h => h) (Or.inl ⟨by rfl, ?_⟩) ?_ ?_
    rotate_left
    · intro w'
      go_simp
      with_reducible rfl
    rotate_left
    · simp only [Act.put, List.setIfInBounds_toArray, List.set_cons_zero, List.set_cons_succ, i64_w, i32_w]
      rfl
    refine pure_ (i := 16) (N := some 7) (v := ?_) (a' := ?_) #[true, true, true, true, true, true, true, true, true, true, true, true, true, true, true, true, true] rfl rfl (by kernel_rfl) (fun _ _ _ h => h) (Or.inl ⟨by rfl, ?_⟩) ?_ ?_
    rotate_left
    · intro w'
      go_simp
      with_reducible rfl
    rotate_left
    · simp only [Act.put, List.setIfInBounds_toArray, List.set_cons_zero, List.set_cons_succ, i64_w, i32_w]
      rfl
    refine done_ (by kernel_rfl) ?_
    have HI3 := Aside0.mk (HID.out.below HB3.out)
    have HB3' := Aside0.mk (HBD.out.trans (HB3.out.mono HBD.out.size))
    have HK3 := Aside0.mk (KeepBut.below_ HKD.out HB3.out)
    clear hc0 hc1
    by_cases he : ec = 0
    · subst he
      obtain ⟨f1, f2, f3, f4⟩ := HF.out.2.2 rfl
      have f1 : 0 ≤ v := f1
      have f2 : v < 18446744073709551616 := f2
      have f4 : n ≤ (out.length : Int) := f4
      have f3 : 0 < n := f3
      have hL := HL.out
      have hwl : wrap64 ((s0.length : Int) - s1) = (s0.length : Int) - s1 := by unfold wrap64; omega
      by_cases hm : v > most
      · have hR := HR.out
        rw [show blobE s0.length most s1 v n 0 = 12 from by unfold blobE; rw [if_pos rfl, if_pos hm], if_neg (by decide)] at hR
        have HR2 := Aside0.mk hR
        clear hR
        go_wp2_with fail
        refine (rd_fail_yes g s0 s1 _ 12 w0 _ HI3.out (by decide)).mono ?_
        rintro e w5 ⟨rfl, k5, kk5, kb5⟩
        have HI5 := Aside0.mk k5
        have HB5 := Aside0.mk (HB3'.out.trans kb5)
        have HK5 := Aside0.mk (keep_then HK3.out kk5)
        clear k5 kk5 kb5
        go_wp2
        go_ret
        rw [HR2.out]
        exact ⟨_, rfl, Kd.R_nil _ _ _ _ _, HI5.out, HB5.out, HK5.out⟩
      · have hub : IntKind.u64.wrap most = most := u64_small _ hm0 (by omega)
        go_wp2_with fail
        refine (rd_left g s0 s1 0 0 w0 W3 HI3.out).mono ?_
        rintro e w4 ⟨rfl, ⟨nl, rfl⟩⟩
        rw [hwl]
        have hb4 : Below W3.heap.size W3 (W3.drewN nl) := pw_below_drewN (Below.refl _ _) nl
        have HI4 := Aside0.mk (HI3.out.below hb4)
        have HB4 := Aside0.mk (HB3'.out.trans (hb4.mono HB3'.out.size))
        have HK4 := Aside0.mk (KeepBut.below_ HK3.out hb4)
        clear hb4
        generalize W3.drewN nl = W4 at *
        have hus : IntKind.u64.wrap ((s0.length : Int) - s1 - n) = (s0.length : Int) - s1 - n := u64_small _ (by omega) (by omega)
        by_cases hv : v > (s0.length : Int) - s1 - n
        · have hR := HR.out
          rw [show blobE s0.length most s1 v n 0 = 2 from by unfold blobE; rw [if_pos rfl, if_neg (show ¬ v > most by omega), if_pos (show v > (s0.length : Int) - s1 - n by omega)], if_neg (by decide)] at hR
          have HR2 := Aside0.mk hR
          clear hR
          go_wp2_with fail
          refine (rd_fail_yes g s0 s1 _ 2 w0 _ HI4.out (by decide)).mono ?_
          rintro e w5 ⟨rfl, k5, kk5, kb5⟩
          have HI5 := Aside0.mk k5
          have HB5 := Aside0.mk (HB4.out.trans kb5)
          have HK5 := Aside0.mk (keep_then HK4.out kk5)
          clear k5 kk5 kb5
          go_wp2
          go_ret
          rw [HR2.out]
          exact ⟨_, rfl, Kd.R_nil _ _ _ _ _, HI5.out, HB5.out, HK5.out⟩
        · have hR := HR.out
          rw [show blobE s0.length most s1 v n 0 = 0 from by unfold blobE; rw [if_pos rfl, if_neg (show ¬ v > most by omega), if_neg (show ¬ v > (s0.length : Int) - s1 - n by omega)], if_pos rfl] at hR
          have HR2 := Aside0.mk hR
          have hw : wrap64 (s1 + n) = s1 + n := by unfold wrap64; omega
          have hwv : wrap64 v = v := by unfold wrap64; omega
          obtain ⟨A4, c4, ev4, k4, g4, _⟩ := HI4.out
          have hd1 : W4.cell? ⟨g, 1, none⟩ = some (.int .i64 s1) := blk_cell k4 1
          have hf1 := blk_frozen k4 1
          have G4 := Aside0.mk g4
          have HI5 := Aside0.mk (HI4.out.set_at (s1 + n))
          have HB5 : Aside0 (Below w0.heap.size w0 (W4.setCell ⟨g, 1, none⟩ (.int .i64 (s1 + n)))) := Aside0.mk (HB4.out.setCell G4.out _)
          have HK5 : Aside0 (KeepBut w (W4.setCell ⟨g, 1, none⟩ (.int .i64 (s1 + n))) g none) := Aside0.mk (HK4.out.set_ 1 _)
          have HTK := Aside0.mk (show num_Reader_Take.f s0 (s1 + n) 0 0 v = some ((s0.take (s1 + n + v).toNat).drop (s1 + n).toNat, s1 + n + v, 0, 0) from by unfold num_Reader_Take.f; rw [if_pos rfl, if_neg (by omega), if_pos (by omega), if_pos (by omega), if_neg (by omega), if_pos (by omega)])
          clear hR k4 g4
          go_wp2_with (go_at_call 127; refine (num_Reader_Take.calls g s0 (s1 + n) 0 0 v _ _ _ _ w0 _ HI5.out HB5.out HTK.out).mono ?_; rintro e w6 ⟨v6, rfl, hr6, hi6, hb6, hk6⟩; have HR6 := Aside0.mk hr6; have HI6 := Aside0.mk hi6; have HB6 := Aside0.mk hb6; have HK6 := Aside0.mk hk6; clear hr6 hi6 hb6 hk6)
          go_ret
          rw [HR2.out]
          exact ⟨_, rfl, Kd.R_lower HR6.out HK5.out.1, HI6.out, HB6.out, keep_then HK5.out HK6.out⟩
    · have hR := HR.out
      rw [show blobE s0.length most s1 v n ec = ec from by unfold blobE; rw [if_neg he], if_neg he] at hR
      have HR2 := Aside0.mk hR
      have HE := Aside0.mk he
      have hne' : (ec != 0) = true := by simpa using he
      clear hR he
      go_wp2_with fail
      refine (rd_fail_yes g s0 s1 _ ec w0 _ HI3.out HE.out).mono ?_
      rintro e w5 ⟨rfl, k5, kk5, kb5⟩
      have HI5 := Aside0.mk k5
      have HB5 := Aside0.mk (HB3'.out.trans kb5)
      have HK5 := Aside0.mk (keep_then HK3.out kk5)
      clear k5 kk5 kb5
      go_wp2
      go_ret
      rw [HR2.out]
      exact ⟨_, rfl, Kd.R_nil _ _ _ _ _, HI5.out, HB5.out, HK5.out⟩
  · have hf := beq_eq_false_iff_ne.2 hs2
    unfold blobS at hr
    rw [if_neg hs2] at hr
    have HR := Aside0.mk hr
    clear hr hs2 hI hB
    go_enter Tryz.func93, Tryz.ntmps93
    go_wp2_with fail
    refine (rd_ok g s0 _ _ _ w0 _ HI.out).mono ?_
    rintro e w' ⟨rfl, rfl⟩
    go_wp2
    go_ret
    rw [HR.out]
    exact ⟨_, rfl, Kd.R_nil _ _ _ _ _, HI.out, HB.out, KeepBut.refl _ _ _⟩
end Go.Proofs.YtjmhiklmlgbifaaGreatDoor.PMan
end
section
namespace Go.Proofs.YtjmhiklmlgbifaaGreatDoor.PMan
open Go.RowKit Go.Proofs.YtjmhiklmlgbifaaGreatDoorW.PrintWords Go.Proofs.YtjmhiklmlgbifaaGreatDoorW.PrintLast Go.Proofs.YtjmhiklmlgbifaaGreatDoorW.PrintMore
attribute [local go_sem] max2_int min2_int max_two min_two
set_option linter.unusedVariables false
set_option linter.unusedSimpArgs false
theorem varS_range (s0 : List Int) (s1 s2 s3 : Int) (hby : ByteL s0) : 0 ≤ (varS s0 s1 s2 s3).1 ∧ (varS s0 s1 s2 s3).1 < 18446744073709551616 := by
  unfold varS
  have hf := shortP_facts (s0.drop s1.toNat) (hby.drop _)
  split
  · split
    · rename_i h
      have := hf.2.2 h
      exact ⟨this.1, this.2.1⟩
    · exact ⟨Int.le_refl 0, show (0 : Int) < 18446744073709551616 by decide⟩
  · exact ⟨Int.le_refl 0, show (0 : Int) < 18446744073709551616 by decide⟩
def upN (lim v : Int) : Int := if v > lim then lim + 1 else v
set_option maxHeartbeats 1600000 in
set_option maxRecDepth 100000 in
theorem rdNumber_calls (g : Nat) (s0 : List Int) (s1 s2 s3 : Int) (w0 w : World) (hI : RD w0 w g s0 s1 s2 s3) (hB : Below w0.heap.size w0 w) (h0 : 0 ≤ s1) (h1 : s1 ≤ s0.length) (hb : s0.length < 1000000000) (hby : ByteL s0) :
    Calls Tryz.prog 90 #[.pointer (some ⟨g, 0, none⟩)] w fun e w' => e = .returned (.int .i64 (upN 1099511627776 (varS s0 s1 s2 s3).1)) ∧ RD w0 w' g s0 (varS s0 s1 s2 s3).2.1 (varS s0 s1 s2 s3).2.2.1 (varS s0 s1 s2 s3).2.2.2 ∧ Below w0.heap.size w0 w' ∧ KeepBut w w' g none := by
  have hv := varS_range s0 s1 s2 s3 hby
  have hc := rdVar_calls g s0 s1 s2 s3 w0 w hI hB h0 h1 hb hby
  generalize varS s0 s1 s2 s3 = r at *
  obtain ⟨v, t1, t2, t3⟩ := r
  dsimp only at hv hc ⊢
  have HC := Aside0.mk hc
  clear hc hI hB hby
  obtain ⟨q, hq⟩ : ∃ q, q = upN 1099511627776 v := ⟨_, rfl⟩
  rw [← hq]
  have HQ := Aside0.mk hq
  clear hq
  obtain ⟨hv0, hv1⟩ := hv
  by_cases h : v > 1099511627776
  · have e : q = 1099511627777 := by rw [HQ.out, upN, if_pos h]; rfl
    subst e
    go_enter Tryz.func90, Tryz.ntmps90
    go_wp2_with fail
    refine HC.out.mono ?_
    rintro e w1 ⟨rfl, k1, k2, k3⟩
    have K := Aside0.mk (And.intro k1 (And.intro k2 k3))
    clear k1 k2 k3
    go_wp2
    all_goals go_ret
    all_goals first | exact ⟨rfl, K.out⟩ | (refine ⟨?_, K.out⟩; show Ending.returned (Value.int .i64 v) = Ending.returned (Value.int .i64 1099511627777); rw [show v = 1099511627777 by omega])
  · have e : q = v := by rw [HQ.out, upN, if_neg h]
    subst e
    have hw : wrap64 q = q := by unfold wrap64; omega
    go_enter Tryz.func90, Tryz.ntmps90
    go_wp2_with fail
    refine HC.out.mono ?_
    rintro e w1 ⟨rfl, k1, k2, k3⟩
    have K := Aside0.mk (And.intro k1 (And.intro k2 k3))
    clear k1 k2 k3
    go_wp2
    all_goals go_ret
    all_goals exact ⟨rfl, K.out⟩
end Go.Proofs.YtjmhiklmlgbifaaGreatDoor.PMan
end
section
namespace Go.Proofs.YtjmhiklmlgbifaaGreatDoor.PMan
open Go.RowKit Go.Proofs.YtjmhiklmlgbifaaGreatDoorW.PrintWords Go.Proofs.YtjmhiklmlgbifaaGreatDoorW.PrintLast Go.Proofs.YtjmhiklmlgbifaaGreatDoorW.PrintMore
attribute [local go_sem] max2_int min2_int max_two min_two
set_option linter.unusedVariables false
set_option linter.unusedSimpArgs false
/-- A reader's state: its place, its error, that one's place. -/
abbrev St := Int × Int × Int
structure In (s0 : List Int) (q : St) : Prop where
  by_ : ByteL s0
  len : s0.length < 1000000000
  lo : 0 ≤ q.1
  hi : q.1 ≤ s0.length
/-- A reader of the program at block g. -/
structure Rs (w0 w : World) (g : Nat) (s0 : List Int) (q : St) : Prop where
  rd : RD w0 w g s0 q.1 q.2.1 q.2.2
  bel : Below w0.heap.size w0 w
  err : ErrT w0
  inn : In s0 q
theorem Rs.below {w0 w w' : World} {g : Nat} {s0 : List Int} {q : St} (h : Rs w0 w g s0 q) (hb : Below w.heap.size w w') : Rs w0 w' g s0 q :=
  ⟨h.rd.below hb, below_then h.bel h.bel.size hb, h.err, h.inn⟩
def failQ (e : Int) (q : St) : St := if q.2.1 = 0 then (if e = 0 then q else (q.1, e, q.1)) else q
def takeQ (s0 : List Int) (n : Int) (q : St) : List Int × St :=
  if q.2.1 = 0 then (if (s0.length : Int) - q.1 < n then ([], q.1, 2, q.1) else ((s0.take (q.1 + n).toNat).drop q.1.toNat, q.1 + n, 0, q.2.2)) else ([], q)
def fixQ (s0 : List Int) (q : St) : Int × St := ((takeQ s0 1 q).1.headD 0, (takeQ s0 1 q).2)
def varQ (s0 : List Int) (q : St) : Int × St := varS s0 q.1 q.2.1 q.2.2
def numQ (lim : Int) (s0 : List Int) (q : St) : Int × St := (upN lim (varQ s0 q).1, (varQ s0 q).2)
def blobQ (s0 : List Int) (most : Int) (q : St) : List Int × St := blobS s0 most q.1 q.2.1 q.2.2
theorem In.same {s0 : List Int} {q q' : St} (h : In s0 q) (e : q'.1 = q.1) : In s0 q' := ⟨h.by_, h.len, by rw [e]; exact h.lo, by rw [e]; exact h.hi⟩
theorem In.to {s0 : List Int} {q q' : St} (h : In s0 q) (h0 : 0 ≤ q'.1) (h1 : q'.1 ≤ s0.length) : In s0 q' := ⟨h.by_, h.len, h0, h1⟩
theorem failQ_in {s0 : List Int} {q : St} (e : Int) (h : In s0 q) : In s0 (failQ e q) := by
  refine h.same ?_
  unfold failQ
  split
  · split <;> rfl
  · rfl
theorem takeQ_in {s0 : List Int} {q : St} (n : Int) (hn : 0 ≤ n) (h : In s0 q) : In s0 (takeQ s0 n q).2 := by
  have h0 := h.lo
  have h1 := h.hi
  unfold takeQ
  split
  · split
    · exact h.same rfl
    · exact h.to (show 0 ≤ q.1 + n by omega) (show q.1 + n ≤ _ by omega)
  · exact h
theorem takeQ_len {s0 : List Int} {q : St} (n : Int) (hn : 0 ≤ n) (h : In s0 q) : ((takeQ s0 n q).1.length = n.toNat ∧ (takeQ s0 n q).2.2.1 = 0) ∨ ((takeQ s0 n q).1 = [] ∧ (takeQ s0 n q).2.2.1 ≠ 0) := by
  have h0 := h.lo
  have h1 := h.hi
  unfold takeQ
  split
  · split
    · exact .inr ⟨rfl, show (2 : Int) ≠ 0 by decide⟩
    · refine .inl ⟨?_, rfl⟩
      show ((s0.take (q.1 + n).toNat).drop q.1.toNat).length = n.toNat
      rw [List.length_drop, List.length_take]
      omega
  · rename_i h; exact .inr ⟨rfl, h⟩
theorem takeQ_by {s0 : List Int} {q : St} (n : Int) (h : In s0 q) : ByteL (takeQ s0 n q).1 := by
  unfold takeQ
  split
  · split
    · exact fun x hx => by simp at hx
    · exact fun x hx => h.by_ x (List.mem_of_mem_take (List.mem_of_mem_drop hx))
  · exact fun x hx => by simp at hx
theorem fixQ_range {s0 : List Int} {q : St} (h : In s0 q) : 0 ≤ (fixQ s0 q).1 ∧ (fixQ s0 q).1 < 256 := by
  have hb := takeQ_by 1 h
  unfold fixQ
  generalize (takeQ s0 1 q).1 = l at hb
  match l, hb with
  | [], _ => exact ⟨Int.le_refl 0, show (0 : Int) < 256 by decide⟩
  | x :: r, hb => exact hb x (List.mem_cons_self ..)
theorem fixQ_in {s0 : List Int} {q : St} (h : In s0 q) : In s0 (fixQ s0 q).2 := takeQ_in 1 (by decide) h
theorem varQ_in {s0 : List Int} {q : St} (h : In s0 q) : In s0 (varQ s0 q).2 := by
  have hf := shortP_facts (s0.drop q.1.toNat) (h.by_.drop _)
  have hl : (s0.drop q.1.toNat).length = s0.length - q.1.toNat := List.length_drop
  have h0 := h.lo
  have h1 := h.hi
  unfold varQ varS
  split
  · split
    · rename_i e
      obtain ⟨f1, f2, f3, f4⟩ := hf.2.2 e
      exact h.to (show 0 ≤ q.1 + _ by omega) (show q.1 + _ ≤ _ by omega)
    · exact h.same rfl
  · exact h.same rfl
theorem varQ_range {s0 : List Int} {q : St} (h : In s0 q) : 0 ≤ (varQ s0 q).1 ∧ (varQ s0 q).1 < 18446744073709551616 := varS_range s0 _ _ _ h.by_
theorem blobQ_in {s0 : List Int} {q : St} (most : Int) (h : In s0 q) : In s0 (blobQ s0 most q).2 := by
  have hf := shortP_facts (s0.drop q.1.toNat) (h.by_.drop _)
  have hl : (s0.drop q.1.toNat).length = s0.length - q.1.toNat := List.length_drop
  have h0 := h.lo
  have h1 := h.hi
  unfold blobQ blobS
  split
  · split
    · rename_i e
      unfold blobE at e
      split at e
      · rename_i e0
        obtain ⟨f1, f2, f3, f4⟩ := hf.2.2 e0
        split at e
        · exact absurd e (by decide)
        · split at e
          · exact absurd e (by decide)
          · exact h.to (show 0 ≤ q.1 + _ + _ by omega) (show q.1 + _ + _ ≤ _ by omega)
      · rename_i e0; exact absurd e e0
    · exact h.same rfl
  · exact h.same rfl
theorem qVar (w0 w : World) (g : Nat) (s0 : List Int) (q : St) (h : Rs w0 w g s0 q) :
    Calls Tryz.prog 118 #[.pointer (some ⟨g, 0, none⟩)] w fun e w' => e = .returned (.int .u64 (varQ s0 q).1) ∧ Rs w0 w' g s0 (varQ s0 q).2 ∧ KeepBut w w' g none := by
  refine (rdVar_calls g s0 _ _ _ w0 w h.rd h.bel h.inn.lo h.inn.hi h.inn.len h.inn.by_).mono ?_
  rintro e w' ⟨he, h1, h2, h3⟩
  exact ⟨he, ⟨h1, h2, h.err, varQ_in h.inn⟩, h3⟩
theorem qNumber (w0 w : World) (g : Nat) (s0 : List Int) (q : St) (h : Rs w0 w g s0 q) :
    Calls Tryz.prog 90 #[.pointer (some ⟨g, 0, none⟩)] w fun e w' => e = .returned (.int .i64 (numQ 1099511627776 s0 q).1) ∧ Rs w0 w' g s0 (numQ 1099511627776 s0 q).2 ∧ KeepBut w w' g none := by
  refine (rdNumber_calls g s0 _ _ _ w0 w h.rd h.bel h.inn.lo h.inn.hi h.inn.len h.inn.by_).mono ?_
  rintro e w' ⟨he, h1, h2, h3⟩
  exact ⟨he, ⟨h1, h2, h.err, varQ_in h.inn⟩, h3⟩
theorem qBlob (most : Int) (hm0 : 0 ≤ most) (hm1 : most ≤ 1000000) (w0 w : World) (g : Nat) (s0 : List Int) (q : St) (h : Rs w0 w g s0 q) :
    Calls Tryz.prog 93 #[.pointer (some ⟨g, 0, none⟩), .int .i64 most] w fun e w' => ∃ vv, e = .returned vv ∧ Kd.R (Kd.int .u8) 5 w' w.heap.size (fun _ => True) vv (blobQ s0 most q).1 ∧ Rs w0 w' g s0 (blobQ s0 most q).2 ∧ KeepBut w w' g none := by
  refine (rdBlob_calls g s0 most _ _ _ w0 w h.rd h.bel h.inn.lo h.inn.hi h.inn.len h.inn.by_ hm0 hm1).mono ?_
  rintro e w' ⟨vv, he, h0, h1, h2, h3⟩
  exact ⟨vv, he, h0, ⟨h1, h2, h.err, blobQ_in most h.inn⟩, h3⟩
theorem takeQ_p {w0 w : World} {g : Nat} {s0 : List Int} {q : St} (n : Int) (hn : 0 ≤ n) (h : Rs w0 w g s0 q) : num_Reader_Take.f s0 q.1 q.2.1 q.2.2 n = some (takeQ s0 n q) := by
  have h0 := h.inn.lo
  have h1 := h.inn.hi
  have h2 := h.inn.len
  unfold num_Reader_Take.f takeQ
  by_cases e : q.2.1 = 0
  · rw [if_pos e, if_pos e, if_neg (by omega), if_pos h0, if_pos h1]
    by_cases hl : (s0.length : Int) - q.1 < n
    · rw [if_pos hl, if_pos hl]
    · rw [if_neg hl, if_neg hl, if_pos (by omega)]
  · rw [if_neg e, if_neg e]
theorem qTake (n : Int) (hn : 0 ≤ n) (w0 w : World) (g : Nat) (s0 : List Int) (q : St) (h : Rs w0 w g s0 q) :
    Calls Tryz.prog 127 #[.pointer (some ⟨g, 0, none⟩), .int .i64 n] w fun e w' => ∃ vv, e = .returned vv ∧ Kd.R (Kd.int .u8) 5 w' w.heap.size (fun _ => True) vv (takeQ s0 n q).1 ∧ Rs w0 w' g s0 (takeQ s0 n q).2 ∧ KeepBut w w' g none := by
  refine (num_Reader_Take.calls g s0 _ _ _ n _ _ _ _ w0 w h.rd h.bel (takeQ_p n hn h)).mono ?_
  rintro e w' ⟨vv, he, h0, h1, h2, h3⟩
  exact ⟨vv, he, h0, ⟨h1, h2, h.err, takeQ_in n hn h.inn⟩, h3⟩
theorem fixQ_p {w0 w : World} {g : Nat} {s0 : List Int} {q : St} (h : Rs w0 w g s0 q) : num_Reader_Fix.f s0 q.1 q.2.1 q.2.2 1 = some (fixQ s0 q) := by
  have hl := takeQ_len 1 (by decide) h.inn
  have hb := takeQ_by 1 h.inn
  unfold num_Reader_Fix.f
  rw [if_pos (.inl rfl), takeQ_p 1 (by decide) h, Option.bind_some]
  unfold fixQ
  generalize takeQ s0 1 q = t at *
  obtain ⟨l, t1, t2, t3⟩ := t
  dsimp only at hl hb ⊢
  match l, hl, hb with
  | [], _, _ => rfl
  | [x], _, hb =>
    have hx := hb x (List.mem_cons_self ..)
    have : Go.bits .or .u64 0 (IntKind.u64.wrap x) = x := by
      rw [u64_small x hx.1 (by omega)]
      have hq : ∀ n : Fin 256, Go.bits .or .u64 0 ((n.val : Nat) : Int) = (n.val : Int) := by decide +kernel
      have := hq ⟨x.toNat, by omega⟩
      rwa [show ((x.toNat : Nat) : Int) = x by omega] at this
    show (some (Go.bits .or .u64 0 (IntKind.u64.wrap x))).bind _ = _
    rw [this]
    rfl
  | x :: y :: r, hl, _ => rcases hl with ⟨hl, _⟩ | ⟨hl, _⟩ <;> simp at hl
theorem qFix (w0 w : World) (g : Nat) (s0 : List Int) (q : St) (h : Rs w0 w g s0 q) :
    Calls Tryz.prog 116 #[.pointer (some ⟨g, 0, none⟩), .int .i64 1] w fun e w' => e = .returned (.int .u64 (fixQ s0 q).1) ∧ Rs w0 w' g s0 (fixQ s0 q).2 ∧ KeepBut w w' g none := by
  refine (num_Reader_Fix.calls g s0 _ _ _ 1 _ _ _ _ w0 w h.rd h.bel (fixQ_p h)).mono ?_
  rintro e w' ⟨he, h1, h2, h3⟩
  exact ⟨he, ⟨h1, h2, h.err, fixQ_in h.inn⟩, h3⟩
theorem qFail (a1 : Int) (w0 w : World) (g : Nat) (s0 : List Int) (q : St) (h : Rs w0 w g s0 q) :
    Calls Tryz.prog 119 #[.pointer (some ⟨g, 0, none⟩), .int .i64 a1] w fun e w' => e = .returned (.tuple #[]) ∧ Rs w0 w' g s0 (failQ a1 q) ∧ KeepBut w w' g none := by
  refine (num_Reader_Fail.calls g s0 q.1 q.2.1 q.2.2 a1 (failQ a1 q).1 (failQ a1 q).2.1 (failQ a1 q).2.2 w0 w h.rd h.bel (by unfold num_Reader_Fail.f failQ; split <;> first | rfl | (split <;> rfl))).mono ?_
  rintro e w' ⟨he, h1, h2, h3⟩
  exact ⟨he, ⟨h1, h2, h.err, failQ_in a1 h.inn⟩, h3⟩
theorem qErr (w0 w : World) (g : Nat) (s0 : List Int) (q : St) (h : Rs w0 w g s0 q) :
    Calls Tryz.prog 89 #[.pointer (some ⟨g, 0, none⟩)] w fun e w' => e = .returned (.tuple #[.int .i64 q.2.1, .int .i64 q.2.2]) ∧ Below w.heap.size w w' :=
  rd_err g s0 _ _ _ w0 w (h.err.of_below h.bel) h.rd
set_option maxHeartbeats 1600000 in
set_option maxRecDepth 100000 in
theorem qGood (w0 w : World) (g : Nat) (s0 : List Int) (q : St) (h : Rs w0 w g s0 q) :
    Calls Tryz.prog 120 #[.pointer (some ⟨g, 0, none⟩)] w fun e w' => e = .returned (.bool (q.2.1 == 0)) ∧ Below w.heap.size w w' := by
  have HC := Aside0.mk (qErr w0 w g s0 q h)
  clear h
  generalize q.2.1 = x at *
  generalize q.2.2 = y at *
  go_enter Tryz.func120, Tryz.ntmps120
  go_wp2_with fail
  refine HC.out.mono ?_
  rintro e w' ⟨rfl, hb⟩
  have HB := Aside0.mk hb
  clear hb
  go_wp2
  go_ret
  exact ⟨rfl, HB.out⟩
set_option maxHeartbeats 1600000 in
set_option maxRecDepth 100000 in
theorem qGood2 (w0 w : World) (g : Nat) (s0 : List Int) (q : St) (h : Rs w0 w g s0 q) :
    Calls Tryz.prog 123 #[.pointer (some ⟨g, 0, none⟩)] w fun e w' => e = .returned (.bool (q.2.1 == 0)) ∧ Below w.heap.size w w' := by
  have HC := Aside0.mk (qErr w0 w g s0 q h)
  clear h
  generalize q.2.1 = x at *
  generalize q.2.2 = y at *
  go_enter Tryz.func123, Tryz.ntmps123
  go_wp2_with fail
  refine HC.out.mono ?_
  rintro e w' ⟨rfl, hb⟩
  have HB := Aside0.mk hb
  clear hb
  go_wp2
  go_ret
  exact ⟨rfl, HB.out⟩
end Go.Proofs.YtjmhiklmlgbifaaGreatDoor.PMan
end

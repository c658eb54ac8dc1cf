/- Texts, put into one. -/
import Derived.Test.YtjmhiklmlgbifaaGreatDoorPT25
import Derived.Test.YtjmhiklmlgbifaaGreatDoorPT30
import Derived.Test.YtjmhiklmlgbifaaGreatDoorPTW
set_option linter.unusedVariables false
set_option linter.unusedSimpArgs false
open Go Go.RowKit Go.Proofs.YtjmhiklmlgbifaaGreatDoorW.PrintWords Go.Proofs.YtjmhiklmlgbifaaGreatDoorW.PrintLast Go.Proofs.YtjmhiklmlgbifaaGreatDoorW.PrintMore
namespace Go.Proofs.YtjmhiklmlgbifaaGreatDoor.PMan
section
attribute [local go_sem] max2_int min2_int max_two min_two
set_option maxHeartbeats 4000000 in
set_option maxRecDepth 100000 in
theorem rBlob (w0 w : World) (g : Nat) (s0 : List Int) (q : St) (h : Rr w0 w g s0 q) :
  Calls Tryz.prog 60 #[.pointer (some ⟨g, 0, none⟩), .int .i64 65536] w fun e w' => ∃ vv, e = .returned vv ∧ Kd.R (Kd.int .u8) 5 w' w.heap.size (fun _ => True) vv (blobQ s0 65536 q).1 ∧ Rr w0 w' g s0 (blobQ s0 65536 q).2 ∧ KeepBut w w' g none := by
 have HR := am h
 have h0 := h.inn.lo
 have h1 := h.inn.hi
 have hb := h.inn.len
 have hby := h.inn.by_
 obtain ⟨r, hr⟩ : ∃ r, r = blobQ s0 65536 q := ⟨_, rfl⟩
 rw [← hr]
 by_cases hz : q.2.1 = 0
 ·have hsp := look_p (s0.drop q.1.toNat) (hby.drop _) (by rw [List.length_drop]; omega)
  have hsf := shortP_facts (s0.drop q.1.toNat) (hby.drop _)
  have hlen : (s0.drop q.1.toNat).length = s0.length - q.1.toNat := List.length_drop
  unfold blobQ blobS at hr
  rw [if_pos hz] at hr
  obtain ⟨A, c, k1, k2, k3, k4⟩ := h.rd
  obtain ⟨i0, hi0, hz0⟩ := Option.map_eq_some_iff.1 clone_info
  simp only [Prod.mk.injEq] at hz0
  obtain ⟨A', hcut, hcr, hcl⟩ := print_cut_int (P := Tryz.prog) (k := .u8) 30 5 Tryz.underlying30 hi0 hz0.2.1 A c s0 q.1 h0 h1 k4
  rw [hz] at k1
  have hc0 := blk_cell k1 0
  have hc1 := blk_cell k1 1
  have hc2 := blk_cell k1 2
  simp only [List.getElem?_toArray] at hc0 hc1 hc2
  have KR := am (show Kd.C (Kd.int .u8) w0 A' (s0.drop q.1.toNat).length (s0.drop q.1.toNat) from Kd.C_of_reads (d := (0 : Int)) (h1 := fun _ => rfl) (hcr w0 (Kd.reads_of_C k3)))
  have KR2 : Aside0 (Kd.C (Kd.int .u8) w.drew A' (s0.drop q.1.toNat).length (s0.drop q.1.toNat)) := am (Kd.C_below KR.out (below_drew h.bel))
  have KC := am hcl
  have HL := am hlen
  clear k1 k2 k3 k4 hcr hcl hz0 hi0 hby hlen h
  generalize s0.drop q.1.toNat = out at *
  obtain ⟨v, n, ec, hq⟩ : ∃ v n ec, shortP out = (v, n, ec) := ⟨_, _, _, rfl⟩
  rw [hq] at hr hsp hsf
  have KS := am hsp
  have HRES := am hr
  have HF := am hsf
  have HZ := am hz
  clear hsp hr hsf hz
  obtain ⟨q0, qe, qp⟩ := q
  dsimp only at *
  go_enter Tryz.func60, Tryz.ntmps60
  go_wp2_with fail
  have hc0 : w.drew.cell? ⟨g, 0, none⟩ = some (.slice A s0.length c) := hc0
  have hc1 : w.drew.cell? ⟨g, 1, none⟩ = some (.int .i64 q0) := hc1
  have HRD : Aside0 (Rr w0 w.drew g s0 (q0, qe, qp)) := am (HR.out.below (below_drew (Below.refl _ _)))
  have HKD : Aside0 (KeepBut w w.drew g none) := am (KeepBut.of_below (below_drew (Below.refl w.heap.size w)) g none)
  refine start_ (n := 17) (S := fun w' => w'.cell? ⟨g, 0, none⟩ = some (.slice A s0.length c) ∧ w'.cell? ⟨g, 1, none⟩ = some (.int .i64 q0)) (ds := []) #[false, false, false, false, false, false, false, false, false, false, false, false, false, false, false, false, false] (by kernel_rfl) rfl rfl ⟨hc0, hc1⟩ (fun hHeld => ?_)
  generalize w.drew = W2 at *
  refine pu 0 (some 14) ?_ ?_ ?_ ?_ ?_
  rotate_left 2
  ·intro w'
   go_simp
   with_reducible rfl
  ·simp only [Act.put, sA1, sA2, sA3, i64_w, i32_w]
   rfl
  refine pu 1 (some 15) ?_ ?_ ?_ ?_ ?_
  rotate_left 2
  ·intro w'
   go_simp
   with_reducible rfl
  ·simp only [Act.put, sA1, sA2, sA3, i64_w, i32_w]
   rfl
  refine pu 2 (some 16) ?_ ?_ ?_ ?_ ?_
  rotate_left 2
  ·intro w'
   go_simp
   with_reducible rfl
  ·simp only [Act.put, sA1, sA2, sA3, i64_w, i32_w]
   rfl
  refine pu 4 (some 18) ?_ ?_ ?_ ?_ ?_
  rotate_left 2
  ·intro w'
   go_simp
   with_reducible rfl
  ·simp only [Act.put, sA1, sA2, sA3, i64_w, i32_w]
   rfl
  refine pu 5 (some 19) ?_ ?_ ?_ ?_ ?_
  rotate_left 2
  ·intro w'
   go_simp
   with_reducible rfl
  ·simp only [Act.put, sA1, sA2, sA3, i64_w, i32_w]
   rfl
  refine pu 6 (some 20) ?_ ?_ ?_ ?_ ?_
  rotate_left 2
  ·intro w'
   go_simp
   with_reducible rfl
  ·simp only [Act.put, sA1, sA2, sA3, i64_w, i32_w]
   rfl
  refine tk 3 (some 17) ?_ ?_ hHeld ?_ ?_ ?_
  rotate_left 2
  ·rintro w' ⟨s0, s1⟩
   go_simp
   with_reducible rfl
  ·simp only [Act.put, sA1, sA2, sA3, i64_w, i32_w]
   rfl
  refine tk 7 (some 21) ?_ ?_ hHeld ?_ ?_ ?_
  rotate_left 2
  ·rintro w' ⟨s0, s1⟩
   go_simp
   with_reducible rfl
  ·simp only [Act.put, sA1, sA2, sA3, i64_w, i32_w]
   rfl
  refine pu 8 (some 22) ?_ ?_ ?_ ?_ ?_
  rotate_left 2
  ·intro w'
   go_simp
   with_reducible rfl
  ·simp only [Act.put, sA1, sA2, sA3, i64_w, i32_w]
   rfl
  refine on (i := 9) (N := some 23) rfl rfl (by kernel_rfl) (by decide) (fun K hK => ?_)
  refine goes_ Tryz.func106 (by kernel_rfl) rfl #[.slice A' out.length (c - q0.toNat)] (by rfl) rfl rfl (by simp only [List.map_toArray, List.map_cons, List.map_nil]; rfl) ?_
  with_reducible refine (estreatref01_look.calls _ A' _ out _ _ _ W2 KR2.out KC.out KS.out).mono ?_
  rintro e w3 ⟨rfl, ⟨nd, rfl⟩⟩
  refine ⟨_, rfl, ?_⟩
  have HB3 := am (pw_below_drewN (Below.refl W2.heap.size W2) nd)
  generalize W2.drewN nd = W3 at *
  refine hK.out _ _ ⟨pw_cell_below HB3.out hc0, pw_cell_below HB3.out hc1⟩ (fun hHeld => ?_)
  clear hK K
  refine norm_ (a' := ?_) ?_ ?_
  rotate_left
  ·show Act.put _ (some 23) _ = _
   simp only [Act.put, sA1, sA2, sA3, i64_w, i32_w]
   rfl
  refine pu 10 (some 13) ?_ ?_ ?_ ?_ ?_
  rotate_left 2
  ·intro w'
   go_simp
   with_reducible rfl
  ·simp only [Act.put, sA1, sA2, sA3, i64_w, i32_w]
   rfl
  refine pu 11 (some 24) ?_ ?_ ?_ ?_ ?_
  rotate_left 2
  ·intro w'
   go_simp
   with_reducible rfl
  ·simp only [Act.put, sA1, sA2, sA3, i64_w, i32_w]
   rfl
  refine pu 12 (some 25) ?_ ?_ ?_ ?_ ?_
  rotate_left 2
  ·intro w'
   go_simp
   with_reducible rfl
  ·simp only [Act.put, sA1, sA2, sA3, i64_w, i32_w]
   rfl
  refine pu 13 (some 26) ?_ ?_ ?_ ?_ ?_
  rotate_left 2
  ·intro w'
   go_simp
   with_reducible rfl
  ·simp only [Act.put, sA1, sA2, sA3, i64_w, i32_w]
   rfl
  refine pu 14 (some 5) ?_ ?_ ?_ ?_ ?_
  rotate_left 2
  ·intro w'
   go_simp
   with_reducible rfl
  ·simp only [Act.put, sA1, sA2, sA3, i64_w, i32_w]
   rfl
  refine pu 15 (some 6) ?_ ?_ ?_ ?_ ?_
  rotate_left 2
  ·intro w'
   go_simp
   with_reducible rfl
  ·simp only [Act.put, sA1, sA2, sA3, i64_w, i32_w]
   rfl
  refine pu 16 (some 7) ?_ ?_ ?_ ?_ ?_
  rotate_left 2
  ·intro w'
   go_simp
   with_reducible rfl
  ·simp only [Act.put, sA1, sA2, sA3, i64_w, i32_w]
   rfl
  refine done_ (by kernel_rfl) ?_
  have HR3 := am (HRD.out.below HB3.out)
  have HK3 := am (KeepBut.rbelow HKD.out HB3.out)
  have hd0 := hc0
  clear hc0 hc1 hc2
  obtain rfl := HZ.out
  have hu : IntKind.u64.wrap 65536 = 65536 := u64_small _ (by decide) (by decide)
  by_cases he : ec = 0
  ·subst he
   obtain ⟨f1, f2, f3, f4⟩ := HF.out.2.2 rfl
   have f1 : 0 ≤ v := f1
   have f2 : v < 18446744073709551616 := f2
   have f4 : n ≤ (out.length : Int) := f4
   have f3 : 0 < n := f3
   have hL := HL.out
   by_cases hm : v > 65536
   ·have hR := HRES.out
    rw [show blobE s0.length 65536 q0 v n 0 = 12 from by unfold blobE; rw [if_pos rfl, if_pos hm], if_neg (by decide)] at hR
    have HRR := am hR
    clear hR
    have hq : failQ 12 (q0, 0, qp) = (q0, 12, q0) := by unfold failQ; rw [if_pos rfl, if_neg (by decide)]
    have hF := fun W (H : Rr w0 W g s0 (q0, 0, qp)) => rFail 12 w0 W g s0 (q0, 0, qp) H
    simp only [hq] at hF
    have HFL := am hF
    clear hq hF
    go_wp2
    go_quiet (fail)
    go_wp2_with fail
    refine (HFL.out _ (HR3.out.below (pw_below_drewN (Below.refl _ _) _))).mono ?_
    rintro e w5 ⟨rfl, hr5, hk5⟩
    have HR5 := am hr5
    have HK5 := am (keep_then (KeepBut.rbelow HK3.out (pw_below_drewN (Below.refl _ _) _)) hk5)
    clear hr5 hk5
    go_wp2
    go_ret
    rw [HRR.out]
    exact ⟨_, rfl, Kd.R_nil _ _ _ _ _, HR5.out, HK5.out⟩
   ·have c0 : W3.cell? ⟨g, 0, none⟩ = some (.slice A s0.length c) := pw_cell_below HB3.out hd0
    have c1 := HR3.out.at_
    have hw1 : wrap64 ((s0.length : Int) - q0) = (s0.length : Int) - q0 := by unfold wrap64; omega
    have hw2 : wrap64 ((s0.length : Int) - q0 - n) = (s0.length : Int) - q0 - n := by unfold wrap64; omega
    have hus : IntKind.u64.wrap ((s0.length : Int) - q0 - n) = (s0.length : Int) - q0 - n := u64_small _ (by omega) (by omega)
    by_cases hv : v > (s0.length : Int) - q0 - n
    ·have hR := HRES.out
     rw [show blobE s0.length 65536 q0 v n 0 = 2 from by unfold blobE; rw [if_pos rfl, if_neg hm, if_pos hv], if_neg (by decide)] at hR
     have HRR := am hR
     clear hR
     have hq : failQ 2 (q0, 0, qp) = (q0, 2, q0) := by unfold failQ; rw [if_pos rfl, if_neg (by decide)]
     have hF := fun W (H : Rr w0 W g s0 (q0, 0, qp)) => rFail 2 w0 W g s0 (q0, 0, qp) H
     simp only [hq] at hF
     have HFL := am hF
     clear hq hF
     go_wp2
     go_quiet (fail)
     go_wp2_with fail
     refine (HFL.out _ (HR3.out.below (pw_below_drewN (Below.refl _ _) _))).mono ?_
     rintro e w5 ⟨rfl, hr5, hk5⟩
     have HR5 := am hr5
     have HK5 := am (keep_then (KeepBut.rbelow HK3.out (pw_below_drewN (Below.refl _ _) _)) hk5)
     clear hr5 hk5
     go_wp2
     go_ret
     rw [HRR.out]
     exact ⟨_, rfl, Kd.R_nil _ _ _ _ _, HR5.out, HK5.out⟩
    ·have hR := HRES.out
     rw [show blobE s0.length 65536 q0 v n 0 = 0 from by unfold blobE; rw [if_pos rfl, if_neg hm, if_neg hv], if_pos rfl] at hR
     have HRR := am hR
     have hw : wrap64 (q0 + n) = q0 + n := by unfold wrap64; omega
     have hwv : wrap64 v = v := by unfold wrap64; omega
     clear hR
     go_wp2
     go_quiet (fail)
     have HP := am (show 0 ≤ q0 + n ∧ q0 + n ≤ s0.length by omega)
     have hT : ∀ W (H : Rr w0 W g s0 (q0 + n, 0, qp)), _ := fun W H => rTake v f1 w0 W g s0 (q0 + n, 0, qp) H
     have hq : takeQ s0 v (q0 + n, 0, qp) = ((s0.take (q0 + n + v).toNat).drop (q0 + n).toNat, q0 + n + v, 0, qp) := by unfold takeQ; rw [if_pos rfl, if_neg (by dsimp only; omega)]
     simp only [hq] at hT
     have HT := am hT
     have f5 := HR3.out.free 1
     clear hT hq
     go_wp2_with fail
     refine (HT.out _ ((HR3.out.below (pw_below_drewN (Below.refl _ _) _)).set_at (q0 + n) HP.out.1 HP.out.2)).mono ?_
     rintro e w5 ⟨vv, rfl, hx, hr5, hk5⟩
     have HR5 := am hr5
     have HX5 := am (Kd.R_lower hx (Nat.le_trans HK3.out.1 (by simp [World.setCell])))
     have HK5 := am (keep_then ((KeepBut.rbelow HK3.out (pw_below_drewN (Below.refl _ _) _)).set_ 1 _) hk5)
     clear hr5 hk5 hx
     go_wp2
     go_ret
     rw [HRR.out]
     exact ⟨_, rfl, HX5.out, HR5.out, HK5.out⟩
  ·have hR := HRES.out
   rw [show blobE s0.length 65536 q0 v n ec = ec from by unfold blobE; rw [if_neg he], if_neg he] at hR
   have HRR := am hR
   have hne' : (ec != 0) = true := by simpa using he
   have hne2 : (ec == 0) = false := beq_eq_false_iff_ne.2 he
   clear hR
   have hq : failQ ec (q0, 0, qp) = (q0, ec, q0) := by unfold failQ; rw [if_pos rfl, if_neg he]
   have hF := fun W (H : Rr w0 W g s0 (q0, 0, qp)) => rFail ec w0 W g s0 (q0, 0, qp) H
   simp only [hq] at hF
   have HFL := am hF
   clear hq hF
   go_wp2
   go_quiet (fail)
   go_wp2_with fail
   refine (HFL.out _ (HR3.out.below (pw_below_drewN (Below.refl _ _) _))).mono ?_
   rintro e w5 ⟨rfl, hr5, hk5⟩
   have HR5 := am hr5
   have HK5 := am (keep_then (KeepBut.rbelow HK3.out (pw_below_drewN (Below.refl _ _) _)) hk5)
   clear hr5 hk5
   go_wp2
   go_ret
   rw [HRR.out]
   exact ⟨_, rfl, Kd.R_nil _ _ _ _ _, HR5.out, HK5.out⟩
 ·have hf : (q.2.1 != 0) = true := by simpa using hz
  unfold blobQ blobS at hr
  rw [if_neg hz] at hr
  have HRES := am hr
  have c2 := h.err
  clear hr hz h
  go_enter Tryz.func60, Tryz.ntmps60
  go_wp2
  go_ret
  rw [HRES.out]
  exact ⟨_, rfl, Kd.R_nil _ _ _ _ _, HR.out, KeepBut.refl _ _ _⟩
end
end Go.Proofs.YtjmhiklmlgbifaaGreatDoor.PMan

/- Texts, put into one. -/
import Derived.Test.YtjmhiklmlgbifaaGreatDoorPT22
import Derived.Test.YtjmhiklmlgbifaaGreatDoorPTW
set_option linter.unusedVariables false
set_option linter.unusedSimpArgs false
open Go Go.RowKit Go.Proofs.YtjmhiklmlgbifaaGreatDoorW.PrintWords Go.Proofs.YtjmhiklmlgbifaaGreatDoorW.PrintLast Go.Proofs.YtjmhiklmlgbifaaGreatDoorW.PrintMore
namespace Go.Proofs.YtjmhiklmlgbifaaGreatDoor.PMan
section
theorem RD.zero {w0 W : World} {g : Nat} {f0 : List Int} {f1 f3 : Int} (h : RD w0 W g f0 f1 0 f3) : f3 = 0 := by
 obtain ⟨A, c, ev, _, _, _, _, h5⟩ := h
 rcases h5 with ⟨_, h, _⟩ | ⟨h, _⟩
 ·exact h
 ·exact absurd rfl h
theorem ByteL.drop {l : List Int} (h : ByteL l) (n : Nat) : ByteL (l.drop n) := fun x hx => h x (List.mem_of_mem_drop hx)
def varS (s0 : List Int) (s1 s2 s3 : Int) : Int × Int × Int × Int :=
 if s2 = 0 then (if (shortP (s0.drop s1.toNat)).2.2 = 0 then ((shortP (s0.drop s1.toNat)).1, s1 + (shortP (s0.drop s1.toNat)).2.1, 0, s3) else (0, s1, (shortP (s0.drop s1.toNat)).2.2, s1)) else (0, s1, s2, s3)
set_option maxHeartbeats 1600000 in
set_option maxRecDepth 100000 in
theorem rdVar_calls (g : Nat) (s0 : List Int) (s1 s2 s3 : Int) (w0 w : World) (hI : RD w0 w g s0 s1 s2 s3) (hB : Below w0.heap.size w0 w) (h0 : 0 ≤ s1) (h1 : s1 ≤ s0.length) (hb : s0.length < 1000000000) (hby : ByteL s0) :
  Calls Tryz.prog 118 #[.pointer (some ⟨g, 0, none⟩)] w fun e w' => e = .returned (.int .u64 (varS s0 s1 s2 s3).1) ∧ RD w0 w' g s0 (varS s0 s1 s2 s3).2.1 (varS s0 s1 s2 s3).2.2.1 (varS s0 s1 s2 s3).2.2.2 ∧ Below w0.heap.size w0 w' ∧ KeepBut w w' g none := by
 obtain ⟨r, hr⟩ : ∃ r, r = varS s0 s1 s2 s3 := ⟨_, rfl⟩
 rw [← hr]
 have HI := am hI
 have HB := am hB
 by_cases hs2 : s2 = 0
 ·subst hs2
  obtain rfl := hI.zero
  have hsp := short_p (s0.drop s1.toNat) (hby.drop _) (by rw [List.length_drop]; omega)
  have hsf := shortP_facts (s0.drop s1.toNat) (hby.drop _)
  have hlen : (s0.drop s1.toNat).length = s0.length - s1.toNat := List.length_drop
  unfold varS at hr
  rw [if_pos rfl] at hr
  obtain ⟨A, c, ev, k1, k2, k3, k4, k5⟩ := hI
  obtain ⟨i0, hi0, hz0⟩ := Option.map_eq_some_iff.1 clone_info
  simp only [Prod.mk.injEq] at hz0
  obtain ⟨A', hcut, hcr, hcl⟩ := print_cut_int (P := Tryz.prog) (k := .u8) 30 5 Tryz.underlying30 hi0 hz0.2.1 A c s0 s1 h0 h1 k4
  have hc0 := blk_cell k1 0
  have hc1 := blk_cell k1 1
  simp only [List.getElem?_toArray] at hc0 hc1
  have K1 := am k1
  have K2 := am k2
  have KR := am (show Kd.C (Kd.int .u8) w0 A' (s0.drop s1.toNat).length (s0.drop s1.toNat) from Kd.C_of_reads (d := (0 : Int)) (h1 := fun _ => rfl) (hcr w0 (Kd.reads_of_C k3)))
  have KR2 : Aside0 (Kd.C (Kd.int .u8) w.drew A' (s0.drop s1.toNat).length (s0.drop s1.toNat)) := am (Kd.C_below KR.out (below_drew hB))
  have KC := am hcl
  have HL := am hlen
  clear hB k1 k2 k3 k4 k5 hcr hcl hz0 hi0 hby hlen
  generalize s0.drop s1.toNat = out at *
  obtain ⟨v, n, ec, hq⟩ : ∃ v n ec, shortP out = (v, n, ec) := ⟨_, _, _, rfl⟩
  rw [hq] at hr hsp hsf
  have KS := am hsp
  have HR := am hr
  have HF := am hsf
  clear hsp hr hsf
  go_enter Tryz.func118, Tryz.ntmps118
  go_wp2_with fail
  refine (rd_ok g s0 _ _ _ w0 _ HI.out).mono ?_
  rintro e w' ⟨rfl, rfl⟩
  go_wp2_with fail
  have hc0 : w.drew.cell? ⟨g, 0, none⟩ = some (.slice A s0.length c) := hc0
  have hc1 : w.drew.cell? ⟨g, 1, none⟩ = some (.int .i64 s1) := hc1
  have HID := am (HI.out.below (below_drew (Below.refl _ _)))
  have HBD := am (HB.out.trans ((below_drew (Below.refl w.heap.size w)).mono HB.out.size))
  have HKD := am (KeepBut.of_below (below_drew (Below.refl w.heap.size w)) g none)
  refine start_ (n := 17) (S := fun w' => w'.cell? ⟨g, 0, none⟩ = some (.slice A s0.length c) ∧ w'.cell? ⟨g, 1, none⟩ = some (.int .i64 s1)) (ds := []) #[false, false, false, false, false, false, false, false, false, false, false, false, false, false, false, false, false] (by kernel_rfl) rfl rfl ⟨hc0, hc1⟩ (fun hHeld => ?_)
  generalize w.drew = W2 at *
  refine pu 0 (some 10) ?_ ?_ ?_ ?_ ?_
  rotate_left 2
  ·intro w'
   go_simp
   with_reducible rfl
  ·simp only [Act.put, sA1, sA2, sA3, i64_w, i32_w]
   rfl
  refine pu 1 (some 11) ?_ ?_ ?_ ?_ ?_
  rotate_left 2
  ·intro w'
   go_simp
   with_reducible rfl
  ·simp only [Act.put, sA1, sA2, sA3, i64_w, i32_w]
   rfl
  refine pu 2 (some 12) ?_ ?_ ?_ ?_ ?_
  rotate_left 2
  ·intro w'
   go_simp
   with_reducible rfl
  ·simp only [Act.put, sA1, sA2, sA3, i64_w, i32_w]
   rfl
  refine pu 4 (some 14) ?_ ?_ ?_ ?_ ?_
  rotate_left 2
  ·intro w'
   go_simp
   with_reducible rfl
  ·simp only [Act.put, sA1, sA2, sA3, i64_w, i32_w]
   rfl
  refine pu 5 (some 15) ?_ ?_ ?_ ?_ ?_
  rotate_left 2
  ·intro w'
   go_simp
   with_reducible rfl
  ·simp only [Act.put, sA1, sA2, sA3, i64_w, i32_w]
   rfl
  refine pu 6 (some 16) ?_ ?_ ?_ ?_ ?_
  rotate_left 2
  ·intro w'
   go_simp
   with_reducible rfl
  ·simp only [Act.put, sA1, sA2, sA3, i64_w, i32_w]
   rfl
  refine tk 3 (some 13) ?_ ?_ hHeld ?_ ?_ ?_
  rotate_left 2
  ·rintro w' ⟨s0, s1⟩
   go_simp
   with_reducible rfl
  ·simp only [Act.put, sA1, sA2, sA3, i64_w, i32_w]
   rfl
  refine tk 7 (some 17) ?_ ?_ hHeld ?_ ?_ ?_
  rotate_left 2
  ·rintro w' ⟨s0, s1⟩
   go_simp
   with_reducible rfl
  ·simp only [Act.put, sA1, sA2, sA3, i64_w, i32_w]
   rfl
  refine pu 8 (some 18) ?_ ?_ ?_ ?_ ?_
  rotate_left 2
  ·intro w'
   go_simp
   with_reducible rfl
  ·simp only [Act.put, sA1, sA2, sA3, i64_w, i32_w]
   rfl
  refine on (i := 9) (N := some 19) rfl rfl (by kernel_rfl) (by decide) (fun K hK => ?_)
  refine goes_ Tryz.func125 (by kernel_rfl) rfl #[.slice A' out.length (c - s1.toNat)] (by rfl) rfl rfl (by simp only [List.map_toArray, List.map_cons, List.map_nil]; rfl) ?_
  with_reducible refine (num_short.calls _ A' _ out _ _ _ W2 KR2.out KC.out KS.out).mono ?_
  rintro e w3 ⟨rfl, ⟨nd, rfl⟩⟩
  refine ⟨_, rfl, ?_⟩
  have HB3 := am (pw_below_drewN (Below.refl W2.heap.size W2) nd)
  generalize W2.drewN nd = W3 at *
  refine hK.out _ _ ⟨pw_cell_below HB3.out hc0, pw_cell_below HB3.out hc1⟩ (fun hHeld => ?_)
  clear hK K
  refine norm_ (a' := ?_) ?_ ?_
  rotate_left
  ·show Act.put _ (some 19) _ = _
   simp only [Act.put, sA1, sA2, sA3, i64_w, i32_w]
   rfl
  refine pu 10 (some 9) ?_ ?_ ?_ ?_ ?_
  rotate_left 2
  ·intro w'
   go_simp
   with_reducible rfl
  ·simp only [Act.put, sA1, sA2, sA3, i64_w, i32_w]
   rfl
  refine pu 11 (some 20) ?_ ?_ ?_ ?_ ?_
  rotate_left 2
  ·intro w'
   go_simp
   with_reducible rfl
  ·simp only [Act.put, sA1, sA2, sA3, i64_w, i32_w]
   rfl
  refine pu 12 (some 21) ?_ ?_ ?_ ?_ ?_
  rotate_left 2
  ·intro w'
   go_simp
   with_reducible rfl
  ·simp only [Act.put, sA1, sA2, sA3, i64_w, i32_w]
   rfl
  refine pu 13 (some 22) ?_ ?_ ?_ ?_ ?_
  rotate_left 2
  ·intro w'
   go_simp
   with_reducible rfl
  ·simp only [Act.put, sA1, sA2, sA3, i64_w, i32_w]
   rfl
  refine pu 14 (some 3) ?_ ?_ ?_ ?_ ?_
  rotate_left 2
  ·intro w'
   go_simp
   with_reducible rfl
  ·simp only [Act.put, sA1, sA2, sA3, i64_w, i32_w]
   rfl
  refine pu 15 (some 4) ?_ ?_ ?_ ?_ ?_
  rotate_left 2
  ·intro w'
   go_simp
   with_reducible rfl
  ·simp only [Act.put, sA1, sA2, sA3, i64_w, i32_w]
   rfl
  refine pu 16 (some 5) ?_ ?_ ?_ ?_ ?_
  rotate_left 2
  ·intro w'
   go_simp
   with_reducible rfl
  ·simp only [Act.put, sA1, sA2, sA3, i64_w, i32_w]
   rfl
  refine done_ (by kernel_rfl) ?_
  have HI3 := am (HID.out.below HB3.out)
  have HB3' := am (HBD.out.trans (HB3.out.mono HBD.out.size))
  have HK3 := am (KeepBut.below_ HKD.out HB3.out)
  clear hc0 hc1
  by_cases he : ec = 0
  ·subst he
   obtain ⟨f1, f2, f3, f4⟩ := HF.out.2.2 rfl
   have f4 : n ≤ (out.length : Int) := f4
   have f3 : 0 < n := f3
   have hL := HL.out
   have hw : wrap64 (s1 + n) = s1 + n := by unfold wrap64; omega
   have HW := am hw
   have hR := HR.out
   rw [if_pos rfl] at hR
   have HR2 := am hR
   obtain ⟨A3, c3, ev3, k3, g3, _⟩ := HI3.out
   have hd1 : W3.cell? ⟨g, 1, none⟩ = some (.int .i64 s1) := blk_cell k3 1
   have hf1 := blk_frozen k3 1
   have G3 := am g3
   clear hR k3 g3 f1 f2 hw hL
   go_wp2_with fail
   refine (rd_fail_no g s0 _ _ _ 0 w0 _ HI3.out (.inr rfl)).mono ?_
   rintro e w' ⟨rfl, rfl⟩
   go_wp2
   go_ret
   rw [HW.out]
   have hrd := HI3.out.set_at (s1 + n)
   rw [HR2.out]
   exact ⟨rfl, hrd, HB3'.out.setCell G3.out _, HK3.out.set_ 1 _⟩
  ·have hnv := HF.out.2.1 he
   obtain ⟨rfl, rfl⟩ : v = 0 ∧ n = 0 := hnv
   have hR := HR.out
   rw [if_neg he] at hR
   have HR2 := am hR
   have HE := am he
   clear hR he
   go_wp2_with fail
   refine (rd_fail_yes g s0 s1 _ ec w0 _ HI3.out HE.out).mono ?_
   rintro e w5 ⟨rfl, k5, kk5, kb5⟩
   have HI5 := am k5
   have HB5 := am (HB3'.out.trans kb5)
   have HK5 := am (keep_then HK3.out kk5)
   obtain ⟨A5, c5, ev5, k5b, g5, _⟩ := k5
   have hd1 : w5.cell? ⟨g, 1, none⟩ = some (.int .i64 s1) := blk_cell k5b 1
   have hf1 := blk_frozen k5b 1
   have G5 := am g5
   clear k5b g5 kk5 kb5
   go_wp2
   go_ret
   have hrd := HI5.out.set_at s1
   rw [HR2.out]
   exact ⟨rfl, hrd, HB5.out.setCell G5.out _, HK5.out.set_ 1 _⟩
 ·have hf := beq_eq_false_iff_ne.2 hs2
  unfold varS at hr
  rw [if_neg hs2] at hr
  have HR := am hr
  clear hr hs2 hI hB
  go_enter Tryz.func118, Tryz.ntmps118
  go_wp2_with fail
  refine (rd_ok g s0 _ _ _ w0 _ HI.out).mono ?_
  rintro e w' ⟨rfl, rfl⟩
  go_wp2
  go_ret
  rw [HR.out]
  exact ⟨rfl, HI.out, HB.out, KeepBut.refl _ _ _⟩
end
section
def blobE (len most s1 v n e : Int) : Int := if e = 0 then (if v > most then 12 else if v > len - s1 - n then 2 else 0) else e
def blobS (s0 : List Int) (most s1 s2 s3 : Int) : List Int × Int × Int × Int :=
 if s2 = 0 then
  (if blobE s0.length most s1 (shortP (s0.drop s1.toNat)).1 (shortP (s0.drop s1.toNat)).2.1 (shortP (s0.drop s1.toNat)).2.2 = 0 then
   ((s0.take (s1 + (shortP (s0.drop s1.toNat)).2.1 + (shortP (s0.drop s1.toNat)).1).toNat).drop (s1 + (shortP (s0.drop s1.toNat)).2.1).toNat, s1 + (shortP (s0.drop s1.toNat)).2.1 + (shortP (s0.drop s1.toNat)).1, 0, s3)
  else ([], s1, blobE s0.length most s1 (shortP (s0.drop s1.toNat)).1 (shortP (s0.drop s1.toNat)).2.1 (shortP (s0.drop s1.toNat)).2.2, s1))
 else ([], s1, s2, s3)
set_option maxHeartbeats 1600000 in
set_option maxRecDepth 100000 in
theorem rdBlob_calls (g : Nat) (s0 : List Int) (most s1 s2 s3 : Int) (w0 w : World) (hI : RD w0 w g s0 s1 s2 s3) (hB : Below w0.heap.size w0 w) (h0 : 0 ≤ s1) (h1 : s1 ≤ s0.length) (hb : s0.length < 1000000000) (hby : ByteL s0) (hm0 : 0 ≤ most) (hm1 : most ≤ 1000000) :
  Calls Tryz.prog 93 #[.pointer (some ⟨g, 0, none⟩), .int .i64 most] w fun e w' => ∃ vv, e = .returned vv ∧ Kd.R (Kd.int .u8) 5 w' w.heap.size (fun _ => True) vv (blobS s0 most s1 s2 s3).1 ∧ RD w0 w' g s0 (blobS s0 most s1 s2 s3).2.1 (blobS s0 most s1 s2 s3).2.2.1 (blobS s0 most s1 s2 s3).2.2.2 ∧ Below w0.heap.size w0 w' ∧ KeepBut w w' g none := by
 obtain ⟨r, hr⟩ : ∃ r, r = blobS s0 most s1 s2 s3 := ⟨_, rfl⟩
 rw [← hr]
 have HI := am hI
 have HB := am hB
 by_cases hs2 : s2 = 0
 ·subst hs2
  obtain rfl := hI.zero
  have hsp := short_p (s0.drop s1.toNat) (hby.drop _) (by rw [List.length_drop]; omega)
  have hsf := shortP_facts (s0.drop s1.toNat) (hby.drop _)
  have hlen : (s0.drop s1.toNat).length = s0.length - s1.toNat := List.length_drop
  unfold blobS at hr
  rw [if_pos rfl] at hr
  obtain ⟨A, c, ev, k1, k2, k3, k4, k5⟩ := hI
  obtain ⟨i0, hi0, hz0⟩ := Option.map_eq_some_iff.1 clone_info
  simp only [Prod.mk.injEq] at hz0
  obtain ⟨A', hcut, hcr, hcl⟩ := print_cut_int (P := Tryz.prog) (k := .u8) 30 5 Tryz.underlying30 hi0 hz0.2.1 A c s0 s1 h0 h1 k4
  have hc0 := blk_cell k1 0
  have hc1 := blk_cell k1 1
  simp only [List.getElem?_toArray] at hc0 hc1
  have K1 := am k1
  have K2 := am k2
  have KR := am (show Kd.C (Kd.int .u8) w0 A' (s0.drop s1.toNat).length (s0.drop s1.toNat) from Kd.C_of_reads (d := (0 : Int)) (h1 := fun _ => rfl) (hcr w0 (Kd.reads_of_C k3)))
  have KR2 : Aside0 (Kd.C (Kd.int .u8) w.drew A' (s0.drop s1.toNat).length (s0.drop s1.toNat)) := am (Kd.C_below KR.out (below_drew hB))
  have KC := am hcl
  have HL := am hlen
  clear hB k1 k2 k3 k4 k5 hcr hcl hz0 hi0 hby hlen
  generalize s0.drop s1.toNat = out at *
  obtain ⟨v, n, ec, hq⟩ : ∃ v n ec, shortP out = (v, n, ec) := ⟨_, _, _, rfl⟩
  rw [hq] at hr hsp hsf
  have KS := am hsp
  have HR := am hr
  have HF := am hsf
  clear hsp hr hsf
  go_enter Tryz.func93, Tryz.ntmps93
  go_wp2_with fail
  refine (rd_ok g s0 _ _ _ w0 _ HI.out).mono ?_
  rintro e w' ⟨rfl, rfl⟩
  go_wp2_with fail
  have hc0 : w.drew.cell? ⟨g, 0, none⟩ = some (.slice A s0.length c) := hc0
  have hc1 : w.drew.cell? ⟨g, 1, none⟩ = some (.int .i64 s1) := hc1
  have HID := am (HI.out.below (below_drew (Below.refl _ _)))
  have HBD := am (HB.out.trans ((below_drew (Below.refl w.heap.size w)).mono HB.out.size))
  have HKD := am (KeepBut.of_below (below_drew (Below.refl w.heap.size w)) g none)
  refine start_ (n := 17) (S := fun w' => w'.cell? ⟨g, 0, none⟩ = some (.slice A s0.length c) ∧ w'.cell? ⟨g, 1, none⟩ = some (.int .i64 s1)) (ds := []) #[false, false, false, false, false, false, false, false, false, false, false, false, false, false, false, false, false] (by kernel_rfl) rfl rfl ⟨hc0, hc1⟩ (fun hHeld => ?_)
  generalize w.drew = W2 at *
  refine pu 0 (some 12) ?_ ?_ ?_ ?_ ?_
  rotate_left 2
  ·intro w'
   go_simp
   with_reducible rfl
  ·simp only [Act.put, sA1, sA2, sA3, i64_w, i32_w]
   rfl
  refine pu 1 (some 13) ?_ ?_ ?_ ?_ ?_
  rotate_left 2
  ·intro w'
   go_simp
   with_reducible rfl
  ·simp only [Act.put, sA1, sA2, sA3, i64_w, i32_w]
   rfl
  refine pu 2 (some 14) ?_ ?_ ?_ ?_ ?_
  rotate_left 2
  ·intro w'
   go_simp
   with_reducible rfl
  ·simp only [Act.put, sA1, sA2, sA3, i64_w, i32_w]
   rfl
  refine pu 4 (some 16) ?_ ?_ ?_ ?_ ?_
  rotate_left 2
  ·intro w'
   go_simp
   with_reducible rfl
  ·simp only [Act.put, sA1, sA2, sA3, i64_w, i32_w]
   rfl
  refine pu 5 (some 17) ?_ ?_ ?_ ?_ ?_
  rotate_left 2
  ·intro w'
   go_simp
   with_reducible rfl
  ·simp only [Act.put, sA1, sA2, sA3, i64_w, i32_w]
   rfl
  refine pu 6 (some 18) ?_ ?_ ?_ ?_ ?_
  rotate_left 2
  ·intro w'
   go_simp
   with_reducible rfl
  ·simp only [Act.put, sA1, sA2, sA3, i64_w, i32_w]
   rfl
  refine tk 3 (some 15) ?_ ?_ hHeld ?_ ?_ ?_
  rotate_left 2
  ·rintro w' ⟨s0, s1⟩
   go_simp
   with_reducible rfl
  ·simp only [Act.put, sA1, sA2, sA3, i64_w, i32_w]
   rfl
  refine tk 7 (some 19) ?_ ?_ hHeld ?_ ?_ ?_
  rotate_left 2
  ·rintro w' ⟨s0, s1⟩
   go_simp
   with_reducible rfl
  ·simp only [Act.put, sA1, sA2, sA3, i64_w, i32_w]
   rfl
  refine pu 8 (some 20) ?_ ?_ ?_ ?_ ?_
  rotate_left 2
  ·intro w'
   go_simp
   with_reducible rfl
  ·simp only [Act.put, sA1, sA2, sA3, i64_w, i32_w]
   rfl
  refine on (i := 9) (N := some 21) rfl rfl (by kernel_rfl) (by decide) (fun K hK => ?_)
  refine goes_ Tryz.func125 (by kernel_rfl) rfl #[.slice A' out.length (c - s1.toNat)] (by rfl) rfl rfl (by simp only [List.map_toArray, List.map_cons, List.map_nil]; rfl) ?_
  with_reducible refine (num_short.calls _ A' _ out _ _ _ W2 KR2.out KC.out KS.out).mono ?_
  rintro e w3 ⟨rfl, ⟨nd, rfl⟩⟩
  refine ⟨_, rfl, ?_⟩
  have HB3 := am (pw_below_drewN (Below.refl W2.heap.size W2) nd)
  generalize W2.drewN nd = W3 at *
  refine hK.out _ _ ⟨pw_cell_below HB3.out hc0, pw_cell_below HB3.out hc1⟩ (fun hHeld => ?_)
  clear hK K
  refine norm_ (a' := ?_) ?_ ?_
  rotate_left
  ·show Act.put _ (some 21) _ = _
   simp only [Act.put, sA1, sA2, sA3, i64_w, i32_w]
   rfl
  refine pu 10 (some 11) ?_ ?_ ?_ ?_ ?_
  rotate_left 2
  ·intro w'
   go_simp
   with_reducible rfl
  ·simp only [Act.put, sA1, sA2, sA3, i64_w, i32_w]
   rfl
  refine pu 11 (some 22) ?_ ?_ ?_ ?_ ?_
  rotate_left 2
  ·intro w'
   go_simp
   with_reducible rfl
  ·simp only [Act.put, sA1, sA2, sA3, i64_w, i32_w]
   rfl
  refine pu 12 (some 23) ?_ ?_ ?_ ?_ ?_
  rotate_left 2
  ·intro w'
   go_simp
   with_reducible rfl
  ·simp only [Act.put, sA1, sA2, sA3, i64_w, i32_w]
   rfl
  refine pu 13 (some 24) ?_ ?_ ?_ ?_ ?_
  rotate_left 2
  ·intro w'
   go_simp
   with_reducible rfl
  ·simp only [Act.put, sA1, sA2, sA3, i64_w, i32_w]
   rfl
  refine pu 14 (some 5) ?_ ?_ ?_ ?_ ?_
  rotate_left 2
  ·intro w'
   go_simp
   with_reducible rfl
  ·simp only [Act.put, sA1, sA2, sA3, i64_w, i32_w]
   rfl
  refine pu 15 (some 6) ?_ ?_ ?_ ?_ ?_
  rotate_left 2
  ·intro w'
   go_simp
   with_reducible rfl
  ·simp only [Act.put, sA1, sA2, sA3, i64_w, i32_w]
   rfl
  refine pu 16 (some 7) ?_ ?_ ?_ ?_ ?_
  rotate_left 2
  ·intro w'
   go_simp
   with_reducible rfl
  ·simp only [Act.put, sA1, sA2, sA3, i64_w, i32_w]
   rfl
  refine done_ (by kernel_rfl) ?_
  have HI3 := am (HID.out.below HB3.out)
  have HB3' := am (HBD.out.trans (HB3.out.mono HBD.out.size))
  have HK3 := am (KeepBut.below_ HKD.out HB3.out)
  clear hc0 hc1
  by_cases he : ec = 0
  ·subst he
   obtain ⟨f1, f2, f3, f4⟩ := HF.out.2.2 rfl
   have f1 : 0 ≤ v := f1
   have f2 : v < 18446744073709551616 := f2
   have f4 : n ≤ (out.length : Int) := f4
   have f3 : 0 < n := f3
   have hL := HL.out
   have hwl : wrap64 ((s0.length : Int) - s1) = (s0.length : Int) - s1 := by unfold wrap64; omega
   by_cases hm : v > most
   ·have hR := HR.out
    rw [show blobE s0.length most s1 v n 0 = 12 from by unfold blobE; rw [if_pos rfl, if_pos hm], if_neg (by decide)] at hR
    have HR2 := am hR
    clear hR
    go_wp2_with fail
    refine (rd_fail_yes g s0 s1 _ 12 w0 _ HI3.out (by decide)).mono ?_
    rintro e w5 ⟨rfl, k5, kk5, kb5⟩
    have HI5 := am k5
    have HB5 := am (HB3'.out.trans kb5)
    have HK5 := am (keep_then HK3.out kk5)
    clear k5 kk5 kb5
    go_wp2
    go_ret
    rw [HR2.out]
    exact ⟨_, rfl, Kd.R_nil _ _ _ _ _, HI5.out, HB5.out, HK5.out⟩
   ·have hub : IntKind.u64.wrap most = most := u64_small _ hm0 (by omega)
    go_wp2_with fail
    refine (rd_left g s0 s1 0 0 w0 W3 HI3.out).mono ?_
    rintro e w4 ⟨rfl, ⟨nl, rfl⟩⟩
    rw [hwl]
    have hb4 : Below W3.heap.size W3 (W3.drewN nl) := pw_below_drewN (Below.refl _ _) nl
    have HI4 := am (HI3.out.below hb4)
    have HB4 := am (HB3'.out.trans (hb4.mono HB3'.out.size))
    have HK4 := am (KeepBut.below_ HK3.out hb4)
    clear hb4
    generalize W3.drewN nl = W4 at *
    have hus : IntKind.u64.wrap ((s0.length : Int) - s1 - n) = (s0.length : Int) - s1 - n := u64_small _ (by omega) (by omega)
    by_cases hv : v > (s0.length : Int) - s1 - n
    ·have hR := HR.out
     rw [show blobE s0.length most s1 v n 0 = 2 from by unfold blobE; rw [if_pos rfl, if_neg (show ¬ v > most by omega), if_pos (show v > (s0.length : Int) - s1 - n by omega)], if_neg (by decide)] at hR
     have HR2 := am hR
     clear hR
     go_wp2_with fail
     refine (rd_fail_yes g s0 s1 _ 2 w0 _ HI4.out (by decide)).mono ?_
     rintro e w5 ⟨rfl, k5, kk5, kb5⟩
     have HI5 := am k5
     have HB5 := am (HB4.out.trans kb5)
     have HK5 := am (keep_then HK4.out kk5)
     clear k5 kk5 kb5
     go_wp2
     go_ret
     rw [HR2.out]
     exact ⟨_, rfl, Kd.R_nil _ _ _ _ _, HI5.out, HB5.out, HK5.out⟩
    ·have hR := HR.out
     rw [show blobE s0.length most s1 v n 0 = 0 from by unfold blobE; rw [if_pos rfl, if_neg (show ¬ v > most by omega), if_neg (show ¬ v > (s0.length : Int) - s1 - n by omega)], if_pos rfl] at hR
     have HR2 := am hR
     have hw : wrap64 (s1 + n) = s1 + n := by unfold wrap64; omega
     have hwv : wrap64 v = v := by unfold wrap64; omega
     obtain ⟨A4, c4, ev4, k4, g4, _⟩ := HI4.out
     have hd1 : W4.cell? ⟨g, 1, none⟩ = some (.int .i64 s1) := blk_cell k4 1
     have hf1 := blk_frozen k4 1
     have G4 := am g4
     have HI5 := am (HI4.out.set_at (s1 + n))
     have HB5 : Aside0 (Below w0.heap.size w0 (W4.setCell ⟨g, 1, none⟩ (.int .i64 (s1 + n)))) := am (HB4.out.setCell G4.out _)
     have HK5 : Aside0 (KeepBut w (W4.setCell ⟨g, 1, none⟩ (.int .i64 (s1 + n))) g none) := am (HK4.out.set_ 1 _)
     have HTK := am (show num_Reader_Take.f s0 (s1 + n) 0 0 v = some ((s0.take (s1 + n + v).toNat).drop (s1 + n).toNat, s1 + n + v, 0, 0) from by unfold num_Reader_Take.f; rw [if_pos rfl, if_neg (by omega), if_pos (by omega), if_pos (by omega), if_neg (by omega), if_pos (by omega)])
     clear hR k4 g4
     go_wp2_with (go_at_call 127; refine (num_Reader_Take.calls g s0 (s1 + n) 0 0 v _ _ _ _ w0 _ HI5.out HB5.out HTK.out).mono ?_; rintro e w6 ⟨v6, rfl, hr6, hi6, hb6, hk6⟩; have HR6 := am hr6; have HI6 := am hi6; have HB6 := am hb6; have HK6 := am hk6; clear hr6 hi6 hb6 hk6)
     go_ret
     rw [HR2.out]
     exact ⟨_, rfl, Kd.R_lower HR6.out HK5.out.1, HI6.out, HB6.out, keep_then HK5.out HK6.out⟩
  ·have hR := HR.out
   rw [show blobE s0.length most s1 v n ec = ec from by unfold blobE; rw [if_neg he], if_neg he] at hR
   have HR2 := am hR
   have HE := am he
   have hne' : (ec != 0) = true := by simpa using he
   clear hR he
   go_wp2_with fail
   refine (rd_fail_yes g s0 s1 _ ec w0 _ HI3.out HE.out).mono ?_
   rintro e w5 ⟨rfl, k5, kk5, kb5⟩
   have HI5 := am k5
   have HB5 := am (HB3'.out.trans kb5)
   have HK5 := am (keep_then HK3.out kk5)
   clear k5 kk5 kb5
   go_wp2
   go_ret
   rw [HR2.out]
   exact ⟨_, rfl, Kd.R_nil _ _ _ _ _, HI5.out, HB5.out, HK5.out⟩
 ·have hf := beq_eq_false_iff_ne.2 hs2
  unfold blobS at hr
  rw [if_neg hs2] at hr
  have HR := am hr
  clear hr hs2 hI hB
  go_enter Tryz.func93, Tryz.ntmps93
  go_wp2_with fail
  refine (rd_ok g s0 _ _ _ w0 _ HI.out).mono ?_
  rintro e w' ⟨rfl, rfl⟩
  go_wp2
  go_ret
  rw [HR.out]
  exact ⟨_, rfl, Kd.R_nil _ _ _ _ _, HI.out, HB.out, KeepBut.refl _ _ _⟩
end
end Go.Proofs.YtjmhiklmlgbifaaGreatDoor.PMan

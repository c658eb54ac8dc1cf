/- Texts of this proof, put into one, without what it does not use: MuD, MuE, MuF. -/
import Derived.Test.YtjmhiklmlgbifaaGreatDoorPB33
import Derived.Test.YtjmhiklmlgbifaaGreatDoorPB22
section
namespace Go.Proofs.YtjmhiklmlgbifaaGreatDoor.PMan
open Go.RowKit Go.Proofs.YtjmhiklmlgbifaaGreatDoorW.PrintWords Go.Proofs.YtjmhiklmlgbifaaGreatDoorW.PrintLast Go.Proofs.YtjmhiklmlgbifaaGreatDoorW.PrintMore
attribute [local go_sem] max2_int min2_int max_two min_two
set_option linter.unusedVariables false
set_option linter.unusedSimpArgs false
theorem fixQ_ok {s0 : List Int} {q : St} (h : In s0 q) (hn : (fixQ s0 q).1 ≠ 0) : (fixQ s0 q).2.2.1 = 0 := by
  by_cases e : q.2.1 = 0
  · have hl := takeQ_len 1 (by decide) h
    unfold fixQ at hn ⊢
    rcases hl with ⟨_, h2⟩ | ⟨h1, _⟩
    · exact h2
    · rw [h1] at hn
      exact absurd rfl hn
  · rw [fixQ_err e] at hn
    exact absurd rfl hn
theorem colQ_of {s0 : List Int} {q qa qb qc : St} {k u y : Int} (ha : fixQ s0 q = (k, qa)) (hb : fixQ s0 qa = (u, qb)) (hc : fixQ s0 qb = (y, qc)) : colQ s0 q = (⟨k, u == 1, y - 1⟩, if u > 1 then failQ 4 qc else qc) := by
  unfold colQ
  simp only [ha, hb, hc]
set_option maxHeartbeats 8000000 in
set_option maxRecDepth 100000 in
theorem qSchema (w0 w : World) (g : Nat) (s0 : List Int) (q : St) (h : Rs w0 w g s0 q) :
    Calls Tryz.prog 91 #[.pointer (some ⟨g, 0, none⟩)] w fun e w' => ∃ vv, e = .returned vv ∧ Kd.R k123 123 w' w.heap.size (fun _ => True) vv (schQ s0 q).1 ∧ Rs w0 w' g s0 (schQ s0 q).2 ∧ KeepBut w w' g none := by
  have HR := Aside0.mk h
  have hlt := h.lt
  have hfr := fixQ_range h.inn
  have hfw := fix_wrap h.inn
  have hfe := fixQ_ok h.inn
  obtain ⟨r, hr⟩ : ∃ r, r = schQ s0 q := ⟨_, rfl⟩
  rw [← hr]
  unfold schQ at hr
  have hF := fun W (H : Rs w0 W g s0 q) => qFix w0 W g s0 q H
  clear h
  obtain ⟨n, q1, hkq⟩ : ∃ k q1, fixQ s0 q = (k, q1) := ⟨_, _, rfl⟩
  rw [hkq] at hr hfr hfw hfe
  simp only [hkq] at hF
  dsimp only at hr hfr hfw hfe
  clear hkq
  obtain ⟨n0, n1⟩ := hfr
  have HRES := Aside0.mk hr
  have HFX := Aside0.mk hF
  have HFE := Aside0.mk hfe
  clear hr hF hfe
  go_enter Tryz.func91, Tryz.ntmps91
  go_wp2_with fail
  refine (HFX.out w HR.out).mono ?_
  rintro e w1 ⟨rfl, hr1, hk1⟩
  have HR1 := Aside0.mk hr1
  have HK1 := Aside0.mk hk1
  clear hr1 hk1 HFX HR
  obtain ⟨m, rfl⟩ := Int.eq_ofNat_of_zero_le n0
  rw [Int.toNat_natCast] at HRES
  go_wp2_with fail
  clear hfw n0
  have hm : m < 256 := by omega
  clear n1
  go_loopw [4, 12] (fun vb v12 w' => ∃ (i : Nat) (l : List S123) (q' : St), i ≤ m ∧ v12 = .int .i64 i ∧ Aside0 (Rs w0 w' g s0 q') ∧ Aside0 (KeepBut w w' g none) ∧ Aside0 (Kd.R k123 123 w' w.heap.size (fun _ => True) vb l) ∧ Aside0 (l.length ≤ i) ∧ Aside0 (colsQ s0 (m - i) l q' = colsQ s0 m [] q1) ∧ Aside0 (m ≠ 0 → q'.2.1 = 0)) (fun _ i _ => m - (intOf i).toNat)
  case atStart => exact ⟨0, [], q1, Nat.zero_le _, rfl, HR1, HK1, ⟨Kd.R_nil _ _ _ _ _⟩, ⟨Nat.le_refl _⟩, ⟨rfl⟩, ⟨fun hm => HFE.out (by omega)⟩⟩
  case round =>
    obtain ⟨i, l, q', hi, rfl, HRr, HKr, HV, HLN, HQ, HOK⟩ := hrel
    by_cases hlt2 : i < m
    · have hq0 := HOK.out (by omega)
      have hi1 := HRr.out.inn
      obtain ⟨k, qa, ha⟩ : ∃ k qa, fixQ s0 q' = (k, qa) := ⟨_, _, rfl⟩
      obtain ⟨u, qb, hb⟩ : ∃ k qb, fixQ s0 qa = (k, qb) := ⟨_, _, rfl⟩
      obtain ⟨y, qc, hc⟩ : ∃ k qc, fixQ s0 qb = (k, qc) := ⟨_, _, rfl⟩
      have ka := fixQ_range hi1
      have ia := fixQ_in hi1
      rw [ha] at ka ia
      have kb := fixQ_range ia
      have ib := fixQ_in ia
      rw [hb] at kb ib
      have kc := fixQ_range ib
      rw [hc] at kc
      have hcq := colQ_of ha hb hc
      have hst : colsQ s0 (m - i) l q' = colsQ s0 (m - (i + 1)) (l ++ [⟨k, u == 1, y - 1⟩]) (if u > 1 then failQ 4 qc else qc) := by
        rw [show m - i = (m - (i + 1)) + 1 by omega, colsQ, if_pos hq0, hcq]
      have HST := Aside0.mk (hst.symm.trans HQ.out)
      have hFa := qFix w0 wr g s0 q' HRr.out
      have hFb := fun W (H : Rs w0 W g s0 qa) => qFix w0 W g s0 qa H
      have hFc := fun W (H : Rs w0 W g s0 qb) => qFix w0 W g s0 qb H
      rw [ha] at hFa
      simp only [hb] at hFb
      simp only [hc] at hFc
      dsimp only at hFa hFb hFc ka kb kc
      have HFA := Aside0.mk hFa
      have HFB := Aside0.mk hFb
      have HFC := Aside0.mk hFc
      have hwk : wrap64 k = k := by unfold wrap64; omega
      have hwy : wrap64 y = y := by unfold wrap64; omega
      have hwy1 : wrap64 (y - 1) = y - 1 := by unfold wrap64; omega
      clear ha hb hc hcq hst hFa hFb hFc ia ib hi1 hq0 HQ HOK ka kb kc
      go_wp2_with fail
      refine HFA.out.mono ?_
      rintro e wa ⟨rfl, hra, hka⟩
      have HRa := Aside0.mk hra
      have HKa := Aside0.mk (keep_then HKr.out hka)
      have HVa := Aside0.mk (R_past HV.out hlt hka)
      clear hra hka
      go_wp2_with fail
      refine (HFB.out wa HRa.out).mono ?_
      rintro e wb ⟨rfl, hrb, hkb⟩
      have HRb := Aside0.mk hrb
      have HKb := Aside0.mk (keep_then HKa.out hkb)
      have HVb := Aside0.mk (R_past HVa.out hlt hkb)
      clear hrb hkb
      go_wp2_with fail
      refine (HFC.out wb HRb.out).mono ?_
      rintro e wc ⟨rfl, hrc, hkc⟩
      have HRc := Aside0.mk hrc
      have HKc := Aside0.mk (keep_then HKb.out hkc)
      have HVc := Aside0.mk (R_past HVb.out hlt hkc)
      clear hrc hkc HFA HFB HFC HRa HRb HKa HKb HVa HVb HKr HV HRr
      by_cases hu : u > 1
      · have e := HST.out
        rw [if_pos hu] at e
        have hne := failQ_ne (e := 4) qc (by decide)
        rw [colsQ_err hne] at e
        have hF := qFail 4 w0 wc g s0 qc HRc.out
        generalize failQ 4 qc = qd at *
        have hg : (qd.2.1 == 0) = false := beq_eq_false_iff_ne.2 hne
        have HNE := Aside0.mk hne
        have HE := Aside0.mk e
        have HF := Aside0.mk hF
        clear e hF hne HST
        go_wp2_with fail
        refine HF.out.mono ?_
        rintro e wd ⟨rfl, hrd, hkd⟩
        have HRd := Aside0.mk hrd
        have HKd := Aside0.mk (keep_then HKc.out hkd)
        clear hrd hkd
        go_wp2_with fail
        refine (qGood w0 wd g s0 qd HRd.out).mono ?_
        rintro e we ⟨rfl, hbe⟩
        have HRe := Aside0.mk (HRd.out.below hbe)
        have HKe := Aside0.mk (KeepBut.below_ HKd.out hbe)
        clear hbe
        go_wp2
        go_ret
        rw [HRES.out, ← HE.out]
        unfold okL
        dsimp only
        rw [failQ_err HNE.out, if_neg HNE.out]
        exact ⟨_, rfl, Kd.R_nil _ _ _ _ _, HRe.out, HKe.out⟩
      · have e := HST.out
        rw [if_neg hu] at e
        have HE := Aside0.mk e
        clear e HST
        go_wp2_with fail
        refine (qGood w0 wc g s0 qc HRc.out).mono ?_
        rintro e we ⟨rfl, hbe⟩
        have HRe := Aside0.mk (HRc.out.below hbe)
        have HKe := Aside0.mk (KeepBut.below_ HKc.out hbe)
        have HVe := Aside0.mk (Kd.R_below HVc.out hbe)
        clear hbe
        by_cases hz : qc.2.1 = 0
        · have hg : (qc.2.1 == 0) = true := by simpa using hz
          have HZ := Aside0.mk hz
          clear hz
          go_wp2_with ((with_reducible refine gate_builtin (b := .append) (xs := #[.tmp 27, .tmp 36]) rfl ?_); at_builtin; refine Kd.R_append k123 (w0 := we) w.heap.size rfl (.tmp 27) (.tmp 36) 22 123 (.agg #[.int .i64 0, .bool false, .int .i64 0]) 24 rfl Tryz.underlying22 (by kernel_rfl) rfl (by decide) (by decide) u4 l (⟨k, u == 1, y - 1⟩ : S123) [.int .i64 k, .bool (u == 1), .int .i64 (y - 1)] (fun _ => True) (fun _ => False) rfl rfl (k123_mkM _ _ _ _) (fun _ h => h.elim) (fun _ _ => trivial) HVe.out (Below.refl _ _) HKe.out.1 (by have := HLN.out; omega) ?_; intro vf wf ho hb hg2 _; have HVf := Aside0.mk ho; have HRf := Aside0.mk (HRe.out.grown HVe.out hlt HKe.out.1 (by decide) hg2); have HKf := Aside0.mk (KeepBut.grown HKe.out HVe.out (Nat.le_refl _) hg2); clear ho hb hg2)
          go_roundw
          case rel => exact ⟨i + 1, _, qc, by omega, by go_num, HRf, HKf, HVf, ⟨by have := HLN.out; rw [List.length_append, List.length_singleton]; omega⟩, HE, ⟨fun _ => HZ.out⟩⟩
          case measure => simp [intOf]; omega
        · have hg : (qc.2.1 == 0) = false := beq_eq_false_iff_ne.2 hz
          have HZ := Aside0.mk hz
          clear hz
          go_wp2
          go_ret
          have e := HE.out
          rw [colsQ_err HZ.out] at e
          rw [HRES.out, ← e]
          unfold okL
          dsimp only
          rw [failQ_err HZ.out, if_neg HZ.out]
          exact ⟨_, rfl, Kd.R_nil _ _ _ _ _, HRe.out, HKe.out⟩
    · obtain rfl : i = m := by omega
      have e := HQ.out
      rw [Nat.sub_self, colsQ] at e
      rw [← e] at HRES
      dsimp only at HRES
      clear e HQ HFE HOK
      go_wp2_with fail
      refine (qGood w0 wr g s0 q' HRr.out).mono ?_
      rintro e we ⟨rfl, hbe⟩
      have HRe := Aside0.mk (HRr.out.below hbe)
      have HKe := Aside0.mk (KeepBut.below_ HKr.out hbe)
      have HVe := Aside0.mk (Kd.R_below HV.out hbe)
      clear hbe
      by_cases hz : q'.2.1 = 0
      · have hg : (q'.2.1 == 0) = true := by simpa using hz
        clear hz
        obtain ⟨A, c, rfl⟩ := Kd.R_slice HVe.out
        have hrd := Kd.R_reads' HVe.out
        have HRD := Aside0.mk hrd
        clear hrd
        go_wp2_with fail
        refine (schema_calls A c l we HRD.out.2.2 HRD.out.2.1 (by have := HLN.out; omega)).mono ?_
        rintro e wf ⟨rfl, hbf⟩
        have HRf := Aside0.mk (HRe.out.below hbf)
        have HKf := Aside0.mk (KeepBut.below_ HKe.out hbf)
        have HVf := Aside0.mk (Kd.R_below HVe.out hbf)
        clear hbf
        have hF := qFail (schemaP l) w0 wf g s0 q' HRf.out
        unfold okL at HRES
        dsimp only at HRES
        generalize schemaP l = sc at *
        generalize failQ sc q' = qf at *
        have HF := Aside0.mk hF
        clear hF
        go_wp2_with fail
        refine HF.out.mono ?_
        rintro e wg ⟨rfl, hrg, hkg⟩
        have HRg := Aside0.mk hrg
        have HKg := Aside0.mk (keep_then HKf.out hkg)
        have HVg := Aside0.mk (R_past HVf.out hlt hkg)
        clear hrg hkg
        go_wp2_with fail
        refine (qGood w0 wg g s0 qf HRg.out).mono ?_
        rintro e wh ⟨rfl, hbh⟩
        have HRh := Aside0.mk (HRg.out.below hbh)
        have HKh := Aside0.mk (KeepBut.below_ HKg.out hbh)
        have HVh := Aside0.mk (Kd.R_below HVg.out hbh)
        clear hbh
        by_cases hz2 : qf.2.1 = 0
        · have hg2 : (qf.2.1 == 0) = true := by simpa using hz2
          have HZ := Aside0.mk hz2
          clear hz2
          go_wp2
          go_ret
          rw [HRES.out, if_pos HZ.out]
          exact ⟨_, rfl, HVh.out, HRh.out, HKh.out⟩
        · have hg2 : (qf.2.1 == 0) = false := beq_eq_false_iff_ne.2 hz2
          have HZ := Aside0.mk hz2
          clear hz2
          go_wp2
          go_ret
          rw [HRES.out, if_neg HZ.out]
          exact ⟨_, rfl, Kd.R_nil _ _ _ _ _, HRh.out, HKh.out⟩
      · have hg : (q'.2.1 == 0) = false := beq_eq_false_iff_ne.2 hz
        have HZ := Aside0.mk hz
        clear hz
        go_wp2_with fail
        refine (qGood w0 we g s0 q' HRe.out).mono ?_
        rintro e wh ⟨rfl, hbh⟩
        have HRh := Aside0.mk (HRe.out.below hbh)
        have HKh := Aside0.mk (KeepBut.below_ HKe.out hbh)
        clear hbh
        go_wp2
        go_ret
        rw [HRES.out]
        unfold okL
        dsimp only
        rw [failQ_err HZ.out, if_neg HZ.out]
        exact ⟨_, rfl, Kd.R_nil _ _ _ _ _, HRh.out, HKh.out⟩
end Go.Proofs.YtjmhiklmlgbifaaGreatDoor.PMan
end
section
namespace Go.Proofs.YtjmhiklmlgbifaaGreatDoor.PMan
open Go.RowKit Go.Proofs.YtjmhiklmlgbifaaGreatDoorW.PrintWords Go.Proofs.YtjmhiklmlgbifaaGreatDoorW.PrintLast Go.Proofs.YtjmhiklmlgbifaaGreatDoorW.PrintMore
attribute [local go_sem] max2_int min2_int max_two min_two
set_option linter.unusedVariables false
set_option linter.unusedSimpArgs false
theorem okL_zero {α : Type} (r : List α × St) : okL 0 r = (if r.2.2.1 = 0 then r.1 else [], r.2) := by
  unfold okL
  rw [failQ_zero]
  split <;> rfl
set_option maxHeartbeats 8000000 in
set_option maxRecDepth 100000 in
theorem qRows (A : Option Addr) (c : Nat) (s : List S123) (w0 w : World) (g : Nat) (s0 : List Int) (q : St) (h : Rs w0 w g s0 q) (hs : ∀ W, KeepBut w W g none → Kd.C k123 W A s.length s) (hc : s.length ≤ c) (hsl : s.length ≤ 1000000) :
    Calls Tryz.prog 94 #[.pointer (some ⟨g, 0, none⟩), .slice A s.length c] w fun e w' => ∃ vv, e = .returned vv ∧ Kd.R (Kd.slice 68 k68) 89 w' w.heap.size (fun _ => True) vv (takeRowsQ s0 s q).1 ∧ Rs w0 w' g s0 (takeRowsQ s0 s q).2 ∧ KeepBut w w' g none := by
  have HR := Aside0.mk h
  have HS := Aside0.mk hs
  have HC := Aside0.mk hc
  have hlt := h.lt
  have hvr := varQ_range h.inn
  obtain ⟨r, hr⟩ : ∃ r, r = takeRowsQ s0 s q := ⟨_, rfl⟩
  rw [← hr]
  unfold takeRowsQ rowsN at hr
  rw [okL_zero] at hr
  have hF := qVar w0 w g s0 q h
  clear h hs hc
  obtain ⟨n, q1, hkq⟩ : ∃ k q1, varQ s0 q = (k, q1) := ⟨_, _, rfl⟩
  rw [hkq] at hr hvr hF
  dsimp only at hr hvr hF
  clear hkq
  have HRES := Aside0.mk hr
  have HF := Aside0.mk hF
  clear hr hF
  obtain ⟨n0, n1⟩ := hvr
  go_enter Tryz.func94, Tryz.ntmps94
  go_wp2_with fail
  refine HF.out.mono ?_
  rintro e w1 ⟨rfl, hr1, hk1⟩
  have HR1 := Aside0.mk hr1
  have HK1 := Aside0.mk hk1
  clear hr1 hk1 HF
  by_cases hn : n > 65536
  · have hne := failQ_ne (e := 12) q1 (by decide)
    have hr := HRES.out
    rw [if_pos hn, rowsQ_err hne, if_neg hne] at hr
    have HRR := Aside0.mk hr
    have hF := qFail 12 w0 w1 g s0 q1 HR1.out
    generalize failQ 12 q1 = qd at *
    have hg : (qd.2.1 == 0) = false := beq_eq_false_iff_ne.2 hne
    have HF := Aside0.mk hF
    clear hF hr hne HRES
    go_wp2_with fail
    refine HF.out.mono ?_
    rintro e wd ⟨rfl, hrd, hkd⟩
    have HRd := Aside0.mk hrd
    have HKd := Aside0.mk (keep_then HK1.out hkd)
    clear hrd hkd
    go_wp2_with fail
    refine (qGood w0 wd g s0 qd HRd.out).mono ?_
    rintro e we ⟨rfl, hbe⟩
    have HRe := Aside0.mk (HRd.out.below hbe)
    have HKe := Aside0.mk (KeepBut.below_ HKd.out hbe)
    clear hbe
    go_wp2
    go_ret
    rw [HRR.out]
    exact ⟨_, rfl, Kd.R_nil _ _ _ _ _, HRe.out, HKe.out⟩
  · have hr := HRES.out
    rw [if_neg hn] at hr
    have HRR := Aside0.mk hr
    clear hr HRES n1
    obtain ⟨m, rfl⟩ := Int.eq_ofNat_of_zero_le n0
    rw [Int.toNat_natCast] at HRR
    have hm : m ≤ 65536 := by omega
    clear n0
    go_wp2_with fail
    refine (qGood w0 w1 g s0 q1 HR1.out).mono ?_
    rintro e we ⟨rfl, hbe⟩
    have HRe := Aside0.mk (HR1.out.below hbe)
    have HKe := Aside0.mk (KeepBut.below_ HK1.out hbe)
    clear hbe
    by_cases hz : ¬ q1.2.1 = 0
    · have hg : (q1.2.1 == 0) = false := beq_eq_false_iff_ne.2 hz
      have e := HRR.out
      rw [rowsQ_err hz, if_neg hz] at e
      have HRQ := Aside0.mk e
      clear hz e HRR
      go_wp2
      go_ret
      rw [HRQ.out]
      exact ⟨_, rfl, Kd.R_nil _ _ _ _ _, HRe.out, HKe.out⟩
    have hz := Classical.not_not.1 hz
    have hg : (q1.2.1 == 0) = true := by simpa using hz
    have HZ := Aside0.mk hz
    clear hz
    go_wp2_with fail
    clear hn hg
    go_loopw [6, 18] (fun vb v18 w' => ∃ (i : Nat) (l : List (List S68)) (q' : St), i ≤ m ∧ v18 = .int .u64 i ∧ Aside0 (Rs w0 w' g s0 q') ∧ Aside0 (KeepBut w w' g none) ∧ Aside0 (Kd.R (Kd.slice 68 k68) 89 w' w.heap.size (fun _ => True) vb l) ∧ Aside0 (l.length ≤ i) ∧ Aside0 (rowsQ s0 s (m - i) l q' = rowsQ s0 s m [] q1) ∧ Aside0 (q'.2.1 = 0)) (fun _ i _ => m - (intOf i).toNat)
    case atStart => exact ⟨0, [], q1, Nat.zero_le _, rfl, HRe, HKe, ⟨Kd.R_nil _ _ _ _ _⟩, ⟨Nat.le_refl _⟩, ⟨rfl⟩, HZ⟩
    case round =>
      obtain ⟨i, l, q', hi, rfl, HRr, HKr, HV, HLN, HQ, HOK⟩ := hrel
      by_cases hlt2 : i < m
      · obtain ⟨B, hB⟩ : ∃ B, B = wr.heap.size := ⟨_, rfl⟩
        have HVB := Aside0.mk (Kd.R_mono (ok' := fun k => k < B) (Kd.R_bound HV.out) (fun k hk => by rw [hB]; exact hk.2.2.1))
        have HBW := Aside0.mk (show w.heap.size ≤ B from hB ▸ HKr.out.1)
        have HBG := Aside0.mk (show g < B by have := HBW.out; omega)
        have HBL := Aside0.mk (show B ≤ wr.heap.size by omega)
        clear hB
        have hst : rowsQ s0 s (m - (i + 1)) (l ++ [(rowQ s0 s.length [] q').1]) (failQ (rowP s (rowQ s0 s.length [] q').1) (rowQ s0 s.length [] q').2) = rowsQ s0 s m [] q1 := by
          rw [← HQ.out, show m - i = (m - (i + 1)) + 1 by omega, rowsQ, if_pos HOK.out]
        obtain ⟨RW, hRW⟩ : ∃ R, R = rowQ s0 s.length [] q' := ⟨_, rfl⟩
        rw [← hRW] at hst
        have HST := Aside0.mk hst
        have HRW := Aside0.mk hRW
        clear hst hRW HQ
        go_wp2_with fail
        go_loopw [7, 22] (fun vr v22 w' => ∃ (j : Nat) (x : List S68) (qq : St), j ≤ s.length ∧ v22 = .int .i64 j ∧ Aside0 (Rs w0 w' g s0 qq) ∧ Aside0 (KeepBut w w' g none) ∧ Aside0 (Kd.R (Kd.slice 68 k68) 89 w' w.heap.size (fun k => k < B) u6 l) ∧ Aside0 (Kd.R k68 68 w' B (fun _ => True) vr x) ∧ Aside0 (B ≤ w'.heap.size) ∧ Aside0 (x.length ≤ j) ∧ Aside0 (RW = rowQ s0 (s.length - j) x qq)) (fun _ i _ => s.length - (intOf i).toNat)
        case atStart => exact ⟨0, [], q', Nat.zero_le _, rfl, HRr, HKr, HVB, ⟨Kd.R_nil _ _ _ _ _⟩, HBL, ⟨Nat.le_refl _⟩, HRW⟩
        case round =>
          obtain ⟨j, x, qq, hj, rfl, HRs, HKs, HVs, HXs, HBs, HXL, HXQ⟩ := hrel
          by_cases hlt3 : j < s.length
          · have hst : RW = rowQ s0 (s.length - (j + 1)) (x ++ [(valQ s0 qq).1]) (valQ s0 qq).2 := by rw [HXQ.out, show s.length - j = (s.length - (j + 1)) + 1 by omega, rowQ]
            have hF := fun W (H : Rs w0 W g s0 qq) => qVal w0 W g s0 qq H
            obtain ⟨v, q2, hvq⟩ : ∃ v q2, valQ s0 qq = (v, q2) := ⟨_, _, rfl⟩
            rw [hvq] at hst
            simp only [hvq] at hF
            dsimp only at hst hF
            unfold vCells at hF
            have HF := Aside0.mk (hF _ HRs.out)
            have HST2 := Aside0.mk hst
            clear hF hst hvq HXQ
            go_wp2_with fail
            refine HF.out.mono ?_
            rintro e wa ⟨rfl, hra, hka⟩
            have HRa := Aside0.mk hra
            have HKa := Aside0.mk (keep_then HKs.out hka)
            have HVa := Aside0.mk (R_past HVs.out hlt hka)
            have HXa := Aside0.mk (R_past HXs.out HBG.out hka)
            have HBa := Aside0.mk (Nat.le_trans HBs.out hka.1)
            clear hra hka
            go_wp2_with ((with_reducible refine gate_builtin (b := .append) (xs := #[.tmp 24, .tmp 27]) rfl ?_); at_builtin; refine Kd.R_append k68 (w0 := wa) B rfl (.tmp 24) (.tmp 27) 89 68 (.agg #[.int .i64 0, .int .i64 0, .string ⟨#[]⟩]) 32 rfl Tryz.underlying89 (by kernel_rfl) rfl (by decide) (by decide) u7 x v [.int .i64 v.f0, .int .i64 v.f1, .string v.f2] (fun _ => True) (fun _ => False) rfl rfl (k68_mkM _ _ _ _) (fun _ h => h.elim) (fun _ _ => trivial) HXa.out (Below.refl _ _) HBa.out (by have := HXL.out; omega) ?_; intro vf wf ho hb hg2 _; have HXf := Aside0.mk ho; have HRf := Aside0.mk (HRa.out.grown HXa.out HBG.out HBa.out (by decide) hg2); have HKf := Aside0.mk (KeepBut.grown HKa.out HXa.out HBW.out hg2); have HVf := Aside0.mk (Kd.R_grown HVa.out hg2 (fun k hk e => by have := Kd.R_base HXa.out k e.symm; omega)); have HBf := Aside0.mk (Nat.le_trans HBa.out hg2.size); clear ho hb hg2)
            go_roundw
            case rel => exact ⟨j + 1, _, q2, by omega, by go_num, HRf, HKf, HVf, HXf, HBf, ⟨by have := HXL.out; rw [List.length_append, List.length_singleton]; omega⟩, HST2⟩
            case measure => simp [intOf]; omega
          · obtain rfl : j = s.length := by omega
            have e := HXQ.out
            rw [Nat.sub_self, rowQ] at e
            subst e
            dsimp only at HST
            clear HXQ HRW
            go_wp2_with fail
            refine (qGood w0 wr g s0 qq HRs.out).mono ?_
            rintro e wa ⟨rfl, hba⟩
            have HRa := Aside0.mk (HRs.out.below hba)
            have HKa := Aside0.mk (KeepBut.below_ HKs.out hba)
            have HVa := Aside0.mk (Kd.R_below HVs.out hba)
            have HXa := Aside0.mk (Kd.R_below HXs.out hba)
            have HBa := Aside0.mk (Nat.le_trans HBs.out hba.size)
            clear hba
            by_cases hz : qq.2.1 = 0
            · have hg : (qq.2.1 == 0) = true := by simpa using hz
              have hxl : x.length ≤ 1000000 := by have := HXL.out; omega
              clear hz
              obtain ⟨Ax, cx, rfl⟩ := Kd.R_slice HXa.out
              have HRD := Aside0.mk (Kd.R_reads' HXa.out)
              go_wp2_with fail
              refine (row_calls A c s Ax cx x wa (HS.out wa HKa.out) HC.out HRD.out.2.2 HRD.out.2.1).mono ?_
              rintro e wf ⟨rfl, hbf⟩
              have HRf := Aside0.mk (HRa.out.below hbf)
              have HKf := Aside0.mk (KeepBut.below_ HKa.out hbf)
              have HVf := Aside0.mk (Kd.R_below HVa.out hbf)
              have HXf := Aside0.mk (Kd.R_below HXa.out hbf)
              have HBf := Aside0.mk (Nat.le_trans HBa.out hbf.size)
              clear hbf
              have hF := qFail (rowP s x) w0 wf g s0 qq HRf.out
              generalize rowP s x = sc at *
              generalize failQ sc qq = qf at *
              have HF := Aside0.mk hF
              clear hF
              go_wp2_with fail
              refine HF.out.mono ?_
              rintro e wg ⟨rfl, hrg, hkg⟩
              have HRg := Aside0.mk hrg
              have HKg := Aside0.mk (keep_then HKf.out hkg)
              have HVg := Aside0.mk (R_past HVf.out hlt hkg)
              have HXg := Aside0.mk (R_past HXf.out HBG.out hkg)
              have HBg := Aside0.mk (Nat.le_trans HBf.out hkg.1)
              clear hrg hkg
              go_wp2_with fail
              refine (qGood w0 wg g s0 qf HRg.out).mono ?_
              rintro e wh ⟨rfl, hbh⟩
              have HRh := Aside0.mk (HRg.out.below hbh)
              have HKh := Aside0.mk (KeepBut.below_ HKg.out hbh)
              have HVh := Aside0.mk (Kd.R_below HVg.out hbh)
              have HXh := Aside0.mk (Kd.R_below HXg.out hbh)
              have HBh := Aside0.mk (Nat.le_trans HBg.out hbh.size)
              clear hbh
              by_cases hz2 : qf.2.1 = 0
              · have hg2 : (qf.2.1 == 0) = true := by simpa using hz2
                have HZ2 := Aside0.mk hz2
                have HVT := Aside0.mk (Kd.R_mono (ok' := fun _ => True) HVh.out (fun _ _ => trivial))
                have HNE := Aside0.mk (show ∀ k, B ≤ k → some k ≠ u6.ownBlock from fun k hk e => by have : k < B := HVh.out.1 k e.symm; omega)
                have HXB := Aside0.mk (show (Kd.slice 68 k68).M wh w.heap.size (fun k => B ≤ k) x [.slice Ax x.length cx] from ⟨_, rfl, Kd.R_lower (Kd.R_mono (Kd.R_bound HXh.out) (fun _ hk => hk.2.1)) HBW.out⟩)
                clear hz2
                go_wp2_with ((with_reducible refine gate_builtin (b := .append) (xs := #[.tmp 40, .tmp 42]) rfl ?_); at_builtin; refine Kd.R_append (Kd.slice 68 k68) (w0 := wh) w.heap.size rfl (.tmp 40) (.tmp 42) 24 89 (.slice none 0 0) 24 rfl Tryz.underlying24 (by kernel_rfl) rfl (by decide) (by decide) u6 l x [.slice Ax x.length cx] (fun _ => True) (fun k => B ≤ k) rfl rfl HXB.out (fun k hk => ⟨trivial, HNE.out k hk⟩) (fun _ _ => trivial) HVT.out (Below.refl _ _) HKh.out.1 (by have := HLN.out; omega) ?_; intro vi wi ho hb hg3 _; have HVi := Aside0.mk ho; have HRi := Aside0.mk (HRh.out.grown HVT.out hlt HKh.out.1 (by decide) hg3); have HKi := Aside0.mk (KeepBut.grown HKh.out HVT.out (Nat.le_refl _) hg3); clear ho hb hg3)
                go_roundw
                case rel => exact ⟨i + 1, _, qf, by omega, by go_num, HRi, HKi, HVi, ⟨by have := HLN.out; rw [List.length_append, List.length_singleton]; omega⟩, HST, HZ2⟩
                case measure => simp [intOf]; omega
              · have hg2 : (qf.2.1 == 0) = false := beq_eq_false_iff_ne.2 hz2
                have e := HST.out
                rw [rowsQ_err hz2] at e
                have e2 := HRR.out
                rw [← e, if_neg hz2] at e2
                have HE := Aside0.mk e2
                clear hz2 e e2
                go_wp2
                go_ret
                rw [HE.out]
                exact ⟨_, rfl, Kd.R_nil _ _ _ _ _, HRh.out, HKh.out⟩
            · have hg : (qq.2.1 == 0) = false := beq_eq_false_iff_ne.2 hz
              have e := HST.out
              rw [failQ_err hz, rowsQ_err hz] at e
              have e2 := HRR.out
              rw [← e, if_neg hz] at e2
              have HE := Aside0.mk e2
              clear hz e e2
              go_wp2_with fail
              refine (qGood w0 wa g s0 qq HRa.out).mono ?_
              rintro e wh ⟨rfl, hbh⟩
              have HRh := Aside0.mk (HRa.out.below hbh)
              have HKh := Aside0.mk (KeepBut.below_ HKa.out hbh)
              clear hbh
              go_wp2
              go_ret
              rw [HE.out]
              exact ⟨_, rfl, Kd.R_nil _ _ _ _ _, HRh.out, HKh.out⟩
      · obtain rfl : i = m := by omega
        have e := HQ.out
        rw [Nat.sub_self, rowsQ] at e
        rw [← e] at HRR
        dsimp only at HRR
        rw [if_pos HOK.out] at HRR
        go_wp2
        go_ret
        rw [HRR.out]
        exact ⟨_, rfl, HV.out, HRr.out, HKr.out⟩
end Go.Proofs.YtjmhiklmlgbifaaGreatDoor.PMan
end
section
namespace Go.Proofs.YtjmhiklmlgbifaaGreatDoor.PMan
open Go.RowKit Go.Proofs.YtjmhiklmlgbifaaGreatDoorW.PrintWords Go.Proofs.YtjmhiklmlgbifaaGreatDoorW.PrintLast Go.Proofs.YtjmhiklmlgbifaaGreatDoorW.PrintMore
attribute [local go_sem] max2_int min2_int max_two min_two
set_option linter.unusedVariables false
set_option linter.unusedSimpArgs false
theorem hashCells_length (l : List Int) : (hashCells l).length = l.length := by unfold hashCells; rw [List.length_map]
theorem C_cells {w : World} {A : Option Addr} {l : List Int} (h : Kd.C (Kd.int .u8) w A l.length l) (hl : 0 < l.length) : ∃ ad, A = some ad ∧ ∀ j v, (hashCells l)[j]? = some v → w.cell? (ad.add j) = some v := by
  obtain ⟨ad, rfl, _⟩ := Kd.at_int h 0 (by decide) (by omega)
  refine ⟨ad, rfl, fun j v hj => ?_⟩
  have hj2 : j < l.length := by
    have := (List.getElem?_eq_some_iff.1 hj).1
    rwa [hashCells_length] at this
  obtain ⟨ad', e, hk⟩ := Kd.at_int h (j : Int) (by omega) (by omega)
  obtain rfl := Option.some.inj e
  rw [Int.toNat_natCast] at hk
  rw [hk]
  unfold hashCells at hj
  rw [List.getElem?_map, List.getElem?_eq_getElem hj2] at hj
  rw [← hj]
  unfold rd
  rw [Int.toNat_natCast, List.getD_eq_getElem?_getD, List.getElem?_eq_getElem hj2]
  rfl
theorem hash_one (l : List Int) : ∀ v ∈ hashCells l, v.oneCell' = true := by
  intro v hv
  obtain ⟨x, _, rfl⟩ := List.mem_map.1 hv
  rfl
/-- A digest's bytes, copied into the middle of a row. -/
theorem copy_row (w : World) (b o dl dc : Nat) (cur : Array Value) (t : TypeId) (A : Option Addr) (c : Nat) (l : List Int) (hb : w.heap[b]? = some (.cells cur t (0, 0))) (hC : Kd.C (Kd.int .u8) w A l.length l) (hn : l.length ≤ dl) (hfit : o + l.length ≤ cur.size) :
    (Builtin.copy_ #[30, 30] 3 #[.slice (some ⟨b, o, none⟩) dl dc, .slice A l.length c]).run Tryz.prog w = .ok (goInt l.length) (w.setRow b (cur.toList.take o ++ hashCells l ++ cur.toList.drop (o + l.length)).toArray) := by
  rcases Nat.eq_zero_or_pos l.length with h | h
  · obtain rfl : l = [] := List.eq_nil_of_length_eq_zero h
    have e := run_copy_none (P := Tryz.prog) w 30 30 3 5 (some ⟨b, o, none⟩) A dl dc 0 c Tryz.underlying30 (by kernel_rfl) (by simp)
    show _ = Result.ok (goInt 0) (w.setRow b (cur.toList.take o ++ [] ++ cur.toList.drop (o + 0)).toArray)
    rw [List.append_nil, Nat.add_zero, List.take_append_drop, Array.toArray_toList, setRow_self w b cur t (0, 0) hb]
    exact e
  · obtain ⟨ad, rfl, hc⟩ := C_cells hC h
    have e := run_copy_row Tryz.prog w 30 30 3 5 b o dl dc ad l.length c cur t (hashCells l) Tryz.underlying30 (by kernel_rfl) hb (by rw [hashCells_length]; exact (Nat.min_eq_left hn).symm) hc (by rw [hashCells_length]; exact hfit) (hash_one l)
    rw [hashCells_length] at e
    exact e
theorem cut32 (l : List Int) (h : l.length = 32) : ((hashCells zH).toArray.toList.take 0 ++ hashCells l ++ (hashCells zH).toArray.toList.drop (0 + l.length)).toArray = (hashCells l).toArray := by
  rw [List.take_zero, List.nil_append, List.drop_eq_nil_of_le (by show (hashCells zH).length ≤ 0 + l.length; rw [h]; decide), List.append_nil]
set_option maxHeartbeats 8000000 in
set_option maxRecDepth 100000 in
theorem qHash (w0 w : World) (g : Nat) (s0 : List Int) (q : St) (h : Rs w0 w g s0 q) :
    Calls Tryz.prog 121 #[.pointer (some ⟨g, 0, none⟩)] w fun e w' => e = .returned (.agg (hashCells (hashQ s0 q).1).toArray) ∧ Rs w0 w' g s0 (hashQ s0 q).2 ∧ KeepBut w w' g none := by
  have HR := Aside0.mk h
  have hlt := h.lt
  have hl := takeQ_len 32 (by decide) h.inn
  obtain ⟨r, hr⟩ : ∃ r, r = hashQ s0 q := ⟨_, rfl⟩
  rw [← hr]
  unfold hashQ at hr
  have hF := fun W (H : Rs w0 W g s0 q) => qTake 32 (by decide) w0 W g s0 q H
  clear h
  obtain ⟨l, q1, hkq⟩ : ∃ k q1, takeQ s0 32 q = (k, q1) := ⟨_, _, rfl⟩
  rw [hkq] at hr hl
  simp only [hkq] at hF
  dsimp only at hr hl
  have hle : l.length ≤ 32 := by rcases hl with ⟨h, _⟩ | ⟨h, _⟩ <;> simp [h]
  have hfin : ((hashCells zH).toArray.toList.take 0 ++ hashCells l ++ (hashCells zH).toArray.toList.drop (0 + l.length)).toArray = (hashCells r.1).toArray := by
    rw [hr]
    dsimp only
    rcases hl with ⟨h1, h2⟩ | ⟨h1, h2⟩
    · rw [if_pos h2]
      exact cut32 l h1
    · rw [if_neg h2, h1]
      rfl
  have hr2 : r.2 = q1 := by rw [hr]
  have hr1 : r.1.length = 32 := by
    rw [hr]
    dsimp only
    rcases hl with ⟨h1, h2⟩ | ⟨h1, h2⟩
    · rw [if_pos h2]; exact h1
    · rw [if_neg h2]; rfl
  rw [hr2]
  generalize r.1 = x at *
  have HFIN := Aside0.mk hfin
  have HFX := Aside0.mk hF
  have HLE := Aside0.mk hle
  have HX1 := Aside0.mk hr1
  clear hkq hr hl hF hle hfin hr2 hr1
  go_enter Tryz.func121, Tryz.ntmps121
  go_wp2_with fail
  have hx0 : (w.alloc (.cells #[.int .u8 0, .int .u8 0, .int .u8 0, .int .u8 0, .int .u8 0, .int .u8 0, .int .u8 0, .int .u8 0, .int .u8 0, .int .u8 0, .int .u8 0, .int .u8 0, .int .u8 0, .int .u8 0, .int .u8 0, .int .u8 0, .int .u8 0, .int .u8 0, .int .u8 0, .int .u8 0, .int .u8 0, .int .u8 0, .int .u8 0, .int .u8 0, .int .u8 0, .int .u8 0, .int .u8 0, .int .u8 0, .int .u8 0, .int .u8 0, .int .u8 0, .int .u8 0] 61)).drew.heap[w.heap.size]? = some (.cells (hashCells zH).toArray 61 (0, 0)) := heap_alloc_new w _
  have hb0 : Below w.heap.size w (w.alloc (.cells #[.int .u8 0, .int .u8 0, .int .u8 0, .int .u8 0, .int .u8 0, .int .u8 0, .int .u8 0, .int .u8 0, .int .u8 0, .int .u8 0, .int .u8 0, .int .u8 0, .int .u8 0, .int .u8 0, .int .u8 0, .int .u8 0, .int .u8 0, .int .u8 0, .int .u8 0, .int .u8 0, .int .u8 0, .int .u8 0, .int .u8 0, .int .u8 0, .int .u8 0, .int .u8 0, .int .u8 0, .int .u8 0, .int .u8 0, .int .u8 0, .int .u8 0, .int .u8 0] 61)).drew := below_drew (below_alloc (Below.refl _ _) _)
  have HR0 := Aside0.mk (HR.out.below hb0)
  have HK0 := Aside0.mk (KeepBut.of_below hb0 g none)
  have HX0 := Aside0.mk hx0
  clear hx0 hb0
  refine start_ (n := 4) (S := fun w' => True) (ds := []) #[false, false, false, false] (by kernel_rfl) rfl rfl trivial (fun hHeld => ?_)
  generalize (w.alloc (.cells #[.int .u8 0, .int .u8 0, .int .u8 0, .int .u8 0, .int .u8 0, .int .u8 0, .int .u8 0, .int .u8 0, .int .u8 0, .int .u8 0, .int .u8 0, .int .u8 0, .int .u8 0, .int .u8 0, .int .u8 0, .int .u8 0, .int .u8 0, .int .u8 0, .int .u8 0, .int .u8 0, .int .u8 0, .int .u8 0, .int .u8 0, .int .u8 0, .int .u8 0, .int .u8 0, .int .u8 0, .int .u8 0, .int .u8 0, .int .u8 0, .int .u8 0, .int .u8 0] 61)).drew = W1 at *
  refine pure_ (i := 0) (N := some 3) (v := ?_) (a' := ?_) #[true, false, false, false] rfl rfl (by kernel_rfl) (fun _ _ _ h => h) (Or.inl ⟨by rfl, ?_⟩) ?_ ?_
  rotate_left
  · intro w'
    go_simp
    with_reducible rfl
  rotate_left
  · simp only [Act.put, List.setIfInBounds_toArray, List.set_cons_zero, List.set_cons_succ, i64_w, i32_w]
    rfl
  refine pure_ (i := 1) (N := some 4) (v := ?_) (a' := ?_) #[true, true, false, false] rfl rfl (by kernel_rfl) (fun _ _ _ h => h) (Or.inl ⟨by rfl, ?_⟩) ?_ ?_
  rotate_left
  · intro w'
    go_simp
    with_reducible rfl
  rotate_left
  · simp only [Act.put, List.setIfInBounds_toArray, List.set_cons_zero, List.set_cons_succ, i64_w, i32_w]
    rfl
  refine one_ (i := 2) (N := some 5) #[true, true, true, false] rfl rfl (by kernel_rfl) (by decide) (fun K hK => ?_)
  refine goes_ Tryz.func127 (by kernel_rfl) rfl #[.pointer (some ⟨g, 0, none⟩), .int .i64 32] (by rfl) rfl rfl (by simp only [List.map_toArray, List.map_cons, List.map_nil]; rfl) ?_
  with_reducible refine (HFX.out W1 HR0.out).mono ?_
  rintro e w2 ⟨vv, rfl, hv2, hr2, hk2⟩
  refine ⟨_, rfl, ?_⟩
  obtain ⟨A, c, rfl⟩ := Kd.R_slice hv2
  have HR2 := Aside0.mk hr2
  have HK2 := Aside0.mk (keep_then HK0.out hk2)
  have HX2 := Aside0.mk (KeepBut.at_ hk2 HX0.out (by omega))
  have hcp := copy_row w2 w.heap.size 0 32 32 _ 61 A c l HX2.out (Kd.R_reads' hv2).2.2 HLE.out (by have := HLE.out; show 0 + l.length ≤ 32; omega)
  rw [HFIN.out] at hcp
  clear hr2 hk2 hv2
  refine hK.out _ _ trivial (fun hHeld => ?_)
  clear hK K
  refine norm_ (a' := ?_) ?_ ?_
  rotate_left
  · show Act.put _ (some 5) _ = _
    simp only [Act.put, List.setIfInBounds_toArray, List.set_cons_zero, List.set_cons_succ, i64_w, i32_w]
    rfl
  refine one_ (i := 3) (N := some 6) #[true, true, true, true] rfl rfl (by kernel_rfl) (by decide) (fun K hK => ?_)
  refine value_ (w1 := ?_) (v := ?_) (by rfl) rfl ?_ ?_
  rotate_left 2
  · go_simp
    constructor
    · rfl
    · rfl
  refine hK.out _ _ trivial (fun hHeld => ?_)
  clear hK K
  refine norm_ (a' := ?_) ?_ ?_
  rotate_left
  · show Act.put _ (some 6) _ = _
    simp only [Act.put, List.setIfInBounds_toArray, List.set_cons_zero, List.set_cons_succ, i64_w, i32_w]
    rfl
  refine done_ (by kernel_rfl) ?_
  have HR3 := Aside0.mk (HR2.out.setRow HX2.out (by decide) hlt (hashCells x).toArray)
  have HX3 := Aside0.mk (setRow_heap w2 w.heap.size _ (hashCells x).toArray _ _ HX2.out)
  have HK3 := Aside0.mk (KeepBut.row HK2.out (Nat.le_refl _) (hashCells x).toArray)
  generalize w2.setRow w.heap.size (hashCells x).toArray = W3 at *
  have HSZ := Aside0.mk (show (hashCells x).toArray.size = 32 by rw [List.size_toArray, hashCells_length]; exact HX1.out)
  have HONE := Aside0.mk (show (hashCells x).toArray.all (·.oneCell') = true by rw [List.all_toArray]; exact List.all_eq_true.2 (hash_one x))
  go_wp2_with (first | (refine wpList_load_row rfl 61 (.tmp 2) rfl w.heap.size rfl 61 (hashCells x).toArray (0, 0) _ HX3.out Tryz.underlying61 rfl (by rw [HSZ.out]; kernel_rfl) ?_) | (refine wpList_store_row rfl 61 (.tmp 2) (.tmp 7) rfl w.heap.size (hashCells x).toArray rfl rfl 61 _ HX3.out (by rw [HSZ.out]; kernel_rfl) rfl HONE.out ?_))
  rw [setRow_self W3 w.heap.size _ _ _ HX3.out]
  refine bodyPost_ret (v := .agg (hashCells x).toArray) (results_cell_row rfl _ _ w.heap.size 61 (hashCells x).toArray (0, 0) _ rfl HX3.out Tryz.underlying61 rfl (by rw [HSZ.out]; kernel_rfl)) rfl ?_
  exact ⟨rfl, HR3.out, HK3.out⟩
end Go.Proofs.YtjmhiklmlgbifaaGreatDoor.PMan
end

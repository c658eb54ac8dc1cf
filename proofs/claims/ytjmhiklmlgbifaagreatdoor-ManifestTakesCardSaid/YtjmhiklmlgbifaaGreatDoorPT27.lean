/- Texts, put into one. -/
import Derived.Test.YtjmhiklmlgbifaaGreatDoorPT26
import Derived.Test.YtjmhiklmlgbifaaGreatDoorPTW
set_option linter.unusedVariables false
set_option linter.unusedSimpArgs false
open Go Go.RowKit Go.Proofs.YtjmhiklmlgbifaaGreatDoorW.PrintWords Go.Proofs.YtjmhiklmlgbifaaGreatDoorW.PrintLast Go.Proofs.YtjmhiklmlgbifaaGreatDoorW.PrintMore
namespace Go.Proofs.YtjmhiklmlgbifaaGreatDoor.PMan
section
attribute [local go_sem] max2_int min2_int max_two min_two
theorem okL_zero {α : Type} (r : List α × St) : okL 0 r = (if r.2.2.1 = 0 then r.1 else [], r.2) := by
 unfold okL
 rw [failQ_zero]
 split <;> rfl
set_option maxHeartbeats 8000000 in
set_option maxRecDepth 100000 in
theorem qRows (A : Option Addr) (c : Nat) (s : List S123) (w0 w : World) (g : Nat) (s0 : List Int) (q : St) (h : Rs w0 w g s0 q) (hs : ∀ W, KeepBut w W g none → Kd.C k123 W A s.length s) (hc : s.length ≤ c) (hsl : s.length ≤ 1000000) :
  Calls Tryz.prog 94 #[.pointer (some ⟨g, 0, none⟩), .slice A s.length c] w fun e w' => ∃ vv, e = .returned vv ∧ Kd.R (Kd.slice 68 k68) 89 w' w.heap.size (fun _ => True) vv (takeRowsQ s0 s q).1 ∧ Rs w0 w' g s0 (takeRowsQ s0 s q).2 ∧ KeepBut w w' g none := by
 have HR := am h
 have HS := am hs
 have HC := am hc
 have hlt := h.lt
 have hvr := varQ_range h.inn
 obtain ⟨r, hr⟩ : ∃ r, r = takeRowsQ s0 s q := ⟨_, rfl⟩
 rw [← hr]
 unfold takeRowsQ rowsN at hr
 rw [okL_zero] at hr
 have hF := qVar w0 w g s0 q h
 clear h hs hc
 obtain ⟨n, q1, hkq⟩ : ∃ k q1, varQ s0 q = (k, q1) := ⟨_, _, rfl⟩
 rw [hkq] at hr hvr hF
 dsimp only at hr hvr hF
 clear hkq
 have HRES := am hr
 have HF := am hF
 clear hr hF
 obtain ⟨n0, n1⟩ := hvr
 go_enter Tryz.func94, Tryz.ntmps94
 go_wp2_with fail
 refine HF.out.mono ?_
 rintro e w1 ⟨rfl, hr1, hk1⟩
 have HR1 := am hr1
 have HK1 := am hk1
 clear hr1 hk1 HF
 by_cases hn : n > 65536
 ·have hne := failQ_ne (e := 12) q1 (by decide)
  have hr := HRES.out
  rw [if_pos hn, rowsQ_err hne, if_neg hne] at hr
  have HRR := am hr
  have hF := qFail 12 w0 w1 g s0 q1 HR1.out
  generalize failQ 12 q1 = qd at *
  have hg : (qd.2.1 == 0) = false := beq_eq_false_iff_ne.2 hne
  have HF := am hF
  clear hF hr hne HRES
  go_wp2_with fail
  refine HF.out.mono ?_
  rintro e wd ⟨rfl, hrd, hkd⟩
  have HRd := am hrd
  have HKd := am (keep_then HK1.out hkd)
  clear hrd hkd
  go_wp2_with fail
  refine (qGood w0 wd g s0 qd HRd.out).mono ?_
  rintro e we ⟨rfl, hbe⟩
  have HRe := am (HRd.out.below hbe)
  have HKe := am (KeepBut.below_ HKd.out hbe)
  clear hbe
  go_wp2
  go_ret
  rw [HRR.out]
  exact ⟨_, rfl, Kd.R_nil _ _ _ _ _, HRe.out, HKe.out⟩
 ·have hr := HRES.out
  rw [if_neg hn] at hr
  have HRR := am hr
  clear hr HRES n1
  obtain ⟨m, rfl⟩ := Int.eq_ofNat_of_zero_le n0
  rw [Int.toNat_natCast] at HRR
  have hm : m ≤ 65536 := by omega
  clear n0
  go_wp2_with fail
  refine (qGood w0 w1 g s0 q1 HR1.out).mono ?_
  rintro e we ⟨rfl, hbe⟩
  have HRe := am (HR1.out.below hbe)
  have HKe := am (KeepBut.below_ HK1.out hbe)
  clear hbe
  by_cases hz : ¬ q1.2.1 = 0
  ·have hg : (q1.2.1 == 0) = false := beq_eq_false_iff_ne.2 hz
   have e := HRR.out
   rw [rowsQ_err hz, if_neg hz] at e
   have HRQ := am e
   clear hz e HRR
   go_wp2
   go_ret
   rw [HRQ.out]
   exact ⟨_, rfl, Kd.R_nil _ _ _ _ _, HRe.out, HKe.out⟩
  have hz := Classical.not_not.1 hz
  have hg : (q1.2.1 == 0) = true := by simpa using hz
  have HZ := am hz
  clear hz
  go_wp2_with fail
  clear hn hg
  go_loopw [6, 18] (fun vb v18 w' => ∃ (i : Nat) (l : List (List S68)) (q' : St), i ≤ m ∧ v18 = .int .u64 i ∧ Aside0 (Rs w0 w' g s0 q') ∧ Aside0 (KeepBut w w' g none) ∧ Aside0 (Kd.R (Kd.slice 68 k68) 89 w' w.heap.size (fun _ => True) vb l) ∧ Aside0 (l.length ≤ i) ∧ Aside0 (rowsQ s0 s (m - i) l q' = rowsQ s0 s m [] q1) ∧ Aside0 (q'.2.1 = 0)) (fun _ i _ => m - (intOf i).toNat)
  case atStart => exact ⟨0, [], q1, Nat.zero_le _, rfl, HRe, HKe, ⟨Kd.R_nil _ _ _ _ _⟩, ⟨Nat.le_refl _⟩, ⟨rfl⟩, HZ⟩
  case round =>
   obtain ⟨i, l, q', hi, rfl, HRr, HKr, HV, HLN, HQ, HOK⟩ := hrel
   by_cases hlt2 : i < m
   ·obtain ⟨B, hB⟩ : ∃ B, B = wr.heap.size := ⟨_, rfl⟩
    have HVB := am (Kd.R_mono (ok' := fun k => k < B) (Kd.R_bound HV.out) (fun k hk => by rw [hB]; exact hk.2.2.1))
    have HBW := am (show w.heap.size ≤ B from hB ▸ HKr.out.1)
    have HBG := am (show g < B by have := HBW.out; omega)
    have HBL := am (show B ≤ wr.heap.size by omega)
    clear hB
    have hst : rowsQ s0 s (m - (i + 1)) (l ++ [(rowQ s0 s.length [] q').1]) (failQ (rowP s (rowQ s0 s.length [] q').1) (rowQ s0 s.length [] q').2) = rowsQ s0 s m [] q1 := by
     rw [← HQ.out, show m - i = (m - (i + 1)) + 1 by omega, rowsQ, if_pos HOK.out]
    obtain ⟨RW, hRW⟩ : ∃ R, R = rowQ s0 s.length [] q' := ⟨_, rfl⟩
    rw [← hRW] at hst
    have HST := am hst
    have HRW := am hRW
    clear hst hRW HQ
    go_wp2_with fail
    go_loopw [7, 22] (fun vr v22 w' => ∃ (j : Nat) (x : List S68) (qq : St), j ≤ s.length ∧ v22 = .int .i64 j ∧ Aside0 (Rs w0 w' g s0 qq) ∧ Aside0 (KeepBut w w' g none) ∧ Aside0 (Kd.R (Kd.slice 68 k68) 89 w' w.heap.size (fun k => k < B) u6 l) ∧ Aside0 (Kd.R k68 68 w' B (fun _ => True) vr x) ∧ Aside0 (B ≤ w'.heap.size) ∧ Aside0 (x.length ≤ j) ∧ Aside0 (RW = rowQ s0 (s.length - j) x qq)) (fun _ i _ => s.length - (intOf i).toNat)
    case atStart => exact ⟨0, [], q', Nat.zero_le _, rfl, HRr, HKr, HVB, ⟨Kd.R_nil _ _ _ _ _⟩, HBL, ⟨Nat.le_refl _⟩, HRW⟩
    case round =>
     obtain ⟨j, x, qq, hj, rfl, HRs, HKs, HVs, HXs, HBs, HXL, HXQ⟩ := hrel
     by_cases hlt3 : j < s.length
     ·have hst : RW = rowQ s0 (s.length - (j + 1)) (x ++ [(valQ s0 qq).1]) (valQ s0 qq).2 := by rw [HXQ.out, show s.length - j = (s.length - (j + 1)) + 1 by omega, rowQ]
      have hF := fun W (H : Rs w0 W g s0 qq) => qVal w0 W g s0 qq H
      obtain ⟨v, q2, hvq⟩ : ∃ v q2, valQ s0 qq = (v, q2) := ⟨_, _, rfl⟩
      rw [hvq] at hst
      simp only [hvq] at hF
      dsimp only at hst hF
      unfold vCells at hF
      have HF := am (hF _ HRs.out)
      have HST2 := am hst
      clear hF hst hvq HXQ
      go_wp2_with fail
      refine HF.out.mono ?_
      rintro e wa ⟨rfl, hra, hka⟩
      have HRa := am hra
      have HKa := am (keep_then HKs.out hka)
      have HVa := am (R_past HVs.out hlt hka)
      have HXa := am (R_past HXs.out HBG.out hka)
      have HBa := am (Nat.le_trans HBs.out hka.1)
      clear hra hka
      go_wp2_with ((with_reducible refine gate_builtin (b := .append) (xs := #[.tmp 24, .tmp 27]) rfl ?_); at_builtin; refine Kd.R_append k68 (w0 := wa) B rfl (.tmp 24) (.tmp 27) 89 68 (.agg #[.int .i64 0, .int .i64 0, .string ⟨#[]⟩]) 32 rfl Tryz.underlying89 (by kernel_rfl) rfl (by decide) (by decide) u7 x v [.int .i64 v.f0, .int .i64 v.f1, .string v.f2] (fun _ => True) (fun _ => False) rfl rfl (k68_mkM _ _ _ _) (fun _ h => h.elim) (fun _ _ => trivial) HXa.out (Below.refl _ _) HBa.out (by have := HXL.out; omega) ?_; intro vf wf ho hb hg2 _; have HXf := am ho; have HRf := am (HRa.out.grown HXa.out HBG.out HBa.out (by decide) hg2); have HKf := am (KeepBut.grown HKa.out HXa.out HBW.out hg2); have HVf := am (Kd.R_grown HVa.out hg2 (fun k hk e => by have := Kd.R_base HXa.out k e.symm; omega)); have HBf := am (Nat.le_trans HBa.out hg2.size); clear ho hb hg2)
      go_roundw
      case rel => exact ⟨j + 1, _, q2, by omega, by go_num, HRf, HKf, HVf, HXf, HBf, ⟨by have := HXL.out; rw [List.length_append, List.length_singleton]; omega⟩, HST2⟩
      case measure => simp [intOf]; omega
     ·obtain rfl : j = s.length := by omega
      have e := HXQ.out
      rw [Nat.sub_self, rowQ] at e
      subst e
      dsimp only at HST
      clear HXQ HRW
      go_wp2_with fail
      refine (qGood w0 wr g s0 qq HRs.out).mono ?_
      rintro e wa ⟨rfl, hba⟩
      have HRa := am (HRs.out.below hba)
      have HKa := am (KeepBut.below_ HKs.out hba)
      have HVa := am (Kd.R_below HVs.out hba)
      have HXa := am (Kd.R_below HXs.out hba)
      have HBa := am (Nat.le_trans HBs.out hba.size)
      clear hba
      by_cases hz : qq.2.1 = 0
      ·have hg : (qq.2.1 == 0) = true := by simpa using hz
       have hxl : x.length ≤ 1000000 := by have := HXL.out; omega
       clear hz
       obtain ⟨Ax, cx, rfl⟩ := Kd.R_slice HXa.out
       have HRD := am (Kd.R_reads' HXa.out)
       go_wp2_with fail
       refine (row_calls A c s Ax cx x wa (HS.out wa HKa.out) HC.out HRD.out.2.2 HRD.out.2.1).mono ?_
       rintro e wf ⟨rfl, hbf⟩
       have HRf := am (HRa.out.below hbf)
       have HKf := am (KeepBut.below_ HKa.out hbf)
       have HVf := am (Kd.R_below HVa.out hbf)
       have HXf := am (Kd.R_below HXa.out hbf)
       have HBf := am (Nat.le_trans HBa.out hbf.size)
       clear hbf
       have hF := qFail (rowP s x) w0 wf g s0 qq HRf.out
       generalize rowP s x = sc at *
       generalize failQ sc qq = qf at *
       have HF := am hF
       clear hF
       go_wp2_with fail
       refine HF.out.mono ?_
       rintro e wg ⟨rfl, hrg, hkg⟩
       have HRg := am hrg
       have HKg := am (keep_then HKf.out hkg)
       have HVg := am (R_past HVf.out hlt hkg)
       have HXg := am (R_past HXf.out HBG.out hkg)
       have HBg := am (Nat.le_trans HBf.out hkg.1)
       clear hrg hkg
       go_wp2_with fail
       refine (qGood w0 wg g s0 qf HRg.out).mono ?_
       rintro e wh ⟨rfl, hbh⟩
       have HRh := am (HRg.out.below hbh)
       have HKh := am (KeepBut.below_ HKg.out hbh)
       have HVh := am (Kd.R_below HVg.out hbh)
       have HXh := am (Kd.R_below HXg.out hbh)
       have HBh := am (Nat.le_trans HBg.out hbh.size)
       clear hbh
       by_cases hz2 : qf.2.1 = 0
       ·have hg2 : (qf.2.1 == 0) = true := by simpa using hz2
        have HZ2 := am hz2
        have HVT := am (Kd.R_mono (ok' := fun _ => True) HVh.out (fun _ _ => trivial))
        have HNE := am (show ∀ k, B ≤ k → some k ≠ u6.ownBlock from fun k hk e => by have : k < B := HVh.out.1 k e.symm; omega)
        have HXB := am (show (Kd.slice 68 k68).M wh w.heap.size (fun k => B ≤ k) x [.slice Ax x.length cx] from ⟨_, rfl, Kd.R_lower (Kd.R_mono (Kd.R_bound HXh.out) (fun _ hk => hk.2.1)) HBW.out⟩)
        clear hz2
        go_wp2_with ((with_reducible refine gate_builtin (b := .append) (xs := #[.tmp 40, .tmp 42]) rfl ?_); at_builtin; refine Kd.R_append (Kd.slice 68 k68) (w0 := wh) w.heap.size rfl (.tmp 40) (.tmp 42) 24 89 (.slice none 0 0) 24 rfl Tryz.underlying24 (by kernel_rfl) rfl (by decide) (by decide) u6 l x [.slice Ax x.length cx] (fun _ => True) (fun k => B ≤ k) rfl rfl HXB.out (fun k hk => ⟨trivial, HNE.out k hk⟩) (fun _ _ => trivial) HVT.out (Below.refl _ _) HKh.out.1 (by have := HLN.out; omega) ?_; intro vi wi ho hb hg3 _; have HVi := am ho; have HRi := am (HRh.out.grown HVT.out hlt HKh.out.1 (by decide) hg3); have HKi := am (KeepBut.grown HKh.out HVT.out (Nat.le_refl _) hg3); clear ho hb hg3)
        go_roundw
        case rel => exact ⟨i + 1, _, qf, by omega, by go_num, HRi, HKi, HVi, ⟨by have := HLN.out; rw [List.length_append, List.length_singleton]; omega⟩, HST, HZ2⟩
        case measure => simp [intOf]; omega
       ·have hg2 : (qf.2.1 == 0) = false := beq_eq_false_iff_ne.2 hz2
        have e := HST.out
        rw [rowsQ_err hz2] at e
        have e2 := HRR.out
        rw [← e, if_neg hz2] at e2
        have HE := am e2
        clear hz2 e e2
        go_wp2
        go_ret
        rw [HE.out]
        exact ⟨_, rfl, Kd.R_nil _ _ _ _ _, HRh.out, HKh.out⟩
      ·have hg : (qq.2.1 == 0) = false := beq_eq_false_iff_ne.2 hz
       have e := HST.out
       rw [failQ_err hz, rowsQ_err hz] at e
       have e2 := HRR.out
       rw [← e, if_neg hz] at e2
       have HE := am e2
       clear hz e e2
       go_wp2_with fail
       refine (qGood w0 wa g s0 qq HRa.out).mono ?_
       rintro e wh ⟨rfl, hbh⟩
       have HRh := am (HRa.out.below hbh)
       have HKh := am (KeepBut.below_ HKa.out hbh)
       clear hbh
       go_wp2
       go_ret
       rw [HE.out]
       exact ⟨_, rfl, Kd.R_nil _ _ _ _ _, HRh.out, HKh.out⟩
   ·obtain rfl : i = m := by omega
    have e := HQ.out
    rw [Nat.sub_self, rowsQ] at e
    rw [← e] at HRR
    dsimp only at HRR
    rw [if_pos HOK.out] at HRR
    go_wp2
    go_ret
    rw [HRR.out]
    exact ⟨_, rfl, HV.out, HRr.out, HKr.out⟩
end
section
attribute [local go_sem] max2_int min2_int max_two min_two max_three min_three max_four min_four
theorem lt10 : num_Reader_Take.f leastL 10 0 0 32 = some (List.replicate 32 0, 42, 0, 0) := by decide +kernel
theorem lt43 : num_Reader_Take.f leastL 43 0 0 32 = some (List.replicate 32 0, 75, 0, 0) := by decide +kernel
theorem lv42 : num_short.f 3 (leastL.drop (42 : Int).toNat) = some (0, 1, 0) := by decide +kernel
theorem setCell_self (w : World) (b o : Nat) (v : Value) (c : Array Value) (t : TypeId) (fr : Nat × Nat) (hb : w.heap[b]? = some (.cells c t fr)) (hv : c[o]? = some v) : w.setCell ⟨b, o, none⟩ v = w := by
 have hlt : b < w.heap.size := (Array.getElem?_eq_some_iff.1 hb).1
 have he : w.heap[b] = .cells c t fr := (Array.getElem?_eq_some_iff.1 hb).2
 have hs : c.setIfInBounds o v = c := by
  apply Array.ext_getElem?
  intro i
  rw [Array.getElem?_setIfInBounds]
  split
  ·rename_i h; subst h; simp only [(Array.getElem?_eq_some_iff.1 hv).1, if_true]; exact hv.symm
  ·rfl
 unfold World.setCell
 cases w with
 | mk heap tape drawn os output =>
  congr 1
  apply Array.ext
  ·simp
  ·intro k h1 h2
   simp only [Array.getElem_modify]
   split
   ·rename_i hk; subst hk; simp at he; simp [he, hs]
   ·rfl
theorem setCells_self (w : World) (b : Nat) (c : Array Value) (t : TypeId) (fr : Nat × Nat) (hb : w.heap[b]? = some (.cells c t fr)) : ∀ (vs : List Value) (o : Nat), (∀ j v, vs[j]? = some v → c[o + j]? = some v) → w.setCells b o vs = w
 | [], _, _ => rfl
 | v :: r, o, h => by
  have h0 := h 0 v rfl
  rw [World.setCells, setCell_self w b o v c t fr hb (by simpa using h0)]
  exact setCells_self w b c t fr hb r (o + 1) (fun j u hj => by have := h (j + 1) u (by simpa using hj); rwa [show o + (j + 1) = o + 1 + j from by omega] at this)
theorem ents_at_lo (j : Nat) (hj : j < 32) : Tryz.zeroCells81[0 + j]? = some (.int .u8 0) := by
 rw [ents_is, List.getElem?_toArray, Nat.zero_add, List.getElem?_append_left (by simpa using hj), List.getElem?_map, List.getElem?_replicate, if_pos hj]
 rfl
theorem ents_at_hi (j : Nat) (hj : j < 32) : Tryz.zeroCells81[33 + j]? = some (.int .u8 0) := by
 rw [ents_is, List.getElem?_toArray, List.getElem?_append_right (by simp; omega), List.length_map, List.length_replicate, show 33 + j - 32 = j + 1 from by omega, List.getElem?_cons_succ, List.getElem?_map, List.getElem?_replicate, if_pos hj]
 rfl
theorem copy_noughts (w : World) (b o : Nat) (A : Option Addr) (c : Nat) (hr : Kd.C (Kd.int .u8) w A (List.replicate 32 (0 : Int)).length (List.replicate 32 0)) (hb : w.heap[b]? = some (.cells Tryz.zeroCells81 81 (0, 0))) (he : ∀ j, j < 32 → Tryz.zeroCells81[o + j]? = some (.int .u8 0)) :
  (Builtin.copy_ #[30, 30] 3 #[.slice (some ⟨b, o, none⟩) 32 32, .slice A 32 c]).run Tryz.prog w = .ok (goInt 32) w := by
 obtain ⟨ad, rfl, _⟩ := Kd.at_int hr 0 (by decide) (by decide)
 have hcell : ∀ j, j < 32 → w.cell? ⟨b, o + j, none⟩ = some (.int .u8 0) := fun j hj => (blk_cell hb (o + j)).trans (he j hj)
 have h := run_copy_cells (P := Tryz.prog) w 30 30 3 5 b o 32 32 ad 32 c (List.replicate 32 (.int .u8 0)) Tryz.underlying30 (by kernel_rfl) (by decide) (fun j v hj => by
   have hj2 : j < 32 := by have := (List.getElem?_eq_some_iff.1 hj).1; simpa using this
   have hv : v = .int .u8 0 := by
    have := (List.getElem?_eq_some_iff.1 hj).2
    rw [List.getElem_replicate] at this
    exact this.symm
   obtain ⟨ad', e, hk⟩ := Kd.at_int hr (j : Int) (by omega) (by rw [List.length_replicate]; omega)
   obtain rfl := Option.some.inj e
   have hz : rd (List.replicate 32 (0 : Int)) (j : Int) = 0 := by unfold rd; rw [Int.toNat_natCast, List.getD_eq_getElem?_getD, List.getElem?_replicate, if_pos hj2]; rfl
   rw [hz, Int.toNat_natCast] at hk
   subst hv
   exact hk) (fun j hj => by rw [hcell j (by simpa using hj)]; rfl) (fun j hj => blk_frozen hb _) (fun v hv => by rw [List.eq_of_mem_replicate hv]; rfl)
 rw [setCells_self w b Tryz.zeroCells81 _ _ hb _ o (fun j v hj => by
  have hj2 : j < 32 := by have := (List.getElem?_eq_some_iff.1 hj).1; simpa using this
  have := (List.getElem?_eq_some_iff.1 hj).2
  rw [List.getElem_replicate] at this
  rw [he j hj2, this])] at h
 exact h
set_option maxHeartbeats 4000000 in
set_option maxRecDepth 100000 in
theorem rd_ledTake (g : Nat) (w0 w : World) (hG : ErrT w0) (hI : RD w0 w g leastL 10 0 0) (hB : Below w0.heap.size w0 w) :
  Calls Tryz.prog 95 #[.pointer (some ⟨g, 0, none⟩)] w fun e w' => e = .returned (.agg Tryz.zeroCells81) ∧ RD w0 w' g leastL 75 0 0 ∧ Below w0.heap.size w0 w' ∧ KeepBut w w' g none := by
 have HG := am hG
 have HI := am hI
 have HB := am hB
 have HGW := am hI.lt
 clear hG hI hB
 go_enter Tryz.func95, Tryz.ntmps95
 go_wp2_with fail
 have hal : Below w.heap.size w (w.alloc (.cells Tryz.zeroCells81 81)).drew := below_drew (below_alloc (Below.refl _ _) _)
 have HE1 := am (show (w.alloc (.cells Tryz.zeroCells81 81)).drew.heap[w.heap.size]? = some (.cells Tryz.zeroCells81 81 (0, 0)) from heap_alloc_new w _)
 have HI1 := am (HI.out.below hal)
 have HB1 := am (below_then HB.out HB.out.size hal)
 have HKP2 := am (KeepBut.of_below hal g none)
 clear hal
 refine start_ (n := 5) (S := fun w' => True) (ds := []) #[false, false, false, false, false] (by kernel_rfl) rfl rfl trivial (fun hHeld => ?_)
 generalize (w.alloc (.cells Tryz.zeroCells81 81)).drew = W1 at *
 refine pu 0 (some 6) ?_ ?_ ?_ ?_ ?_
 rotate_left 2
 ·intro w'
  go_simp
  with_reducible rfl
 ·simp only [Act.put, sA1, sA2, sA3, i64_w, i32_w]
  rfl
 refine pu 1 (some 7) ?_ ?_ ?_ ?_ ?_
 rotate_left 2
 ·intro w'
  go_simp
  with_reducible rfl
 ·simp only [Act.put, sA1, sA2, sA3, i64_w, i32_w]
  rfl
 refine pu 2 (some 8) ?_ ?_ ?_ ?_ ?_
 rotate_left 2
 ·intro w'
  go_simp
  with_reducible rfl
 ·simp only [Act.put, sA1, sA2, sA3, i64_w, i32_w]
  rfl
 refine on (i := 3) (N := some 9) rfl rfl (by kernel_rfl) (by decide) (fun K hK => ?_)
 refine goes_ Tryz.func127 (by kernel_rfl) rfl #[.pointer (some ⟨g, 0, none⟩), .int .i64 32] (by rfl) rfl rfl (by simp only [List.map_toArray, List.map_cons, List.map_nil]; rfl) ?_
 with_reducible refine (num_Reader_Take.calls g leastL 10 0 0 32 (List.replicate 32 0) 42 0 0 w0 W1 HI1.out HB1.out lt10).mono ?_
 rintro e w2 ⟨v2, rfl, hr, h1, h2, h3⟩
 refine ⟨_, rfl, ?_⟩
 obtain ⟨A2, c2, rfl⟩ := Kd.R_slice hr
 have hrd := (Kd.R_reads' hr).2.2
 have HI2 := am h1
 have HB2 := am h2
 have hbe := (h3.2 w.heap.size (blk_lt HE1.out) (Ne.symm (Nat.ne_of_lt HGW.out)) (by simp)).trans HE1.out
 have HE2 := am hbe
 have HK2 := am (keep_then HKP2.out h3)
 have hcp := copy_noughts w2 w.heap.size 0 A2 c2 hrd hbe (by intro j hj; exact ents_at_lo j hj)
 clear hr h1 h2 h3 hbe hrd
 refine hK.out _ _ trivial (fun hHeld => ?_)
 clear hK K
 refine norm_ (a' := ?_) ?_ ?_
 rotate_left
 ·show Act.put _ (some 9) _ = _
  simp only [Act.put, sA1, sA2, sA3, i64_w, i32_w]
  rfl
 refine on (i := 4) (N := some 10) rfl rfl (by kernel_rfl) (by decide) (fun K hK => ?_)
 refine value_ (w1 := ?_) (v := ?_) (by rfl) rfl ?_ ?_
 rotate_left 2
 ·go_simp
  constructor
  ·rfl
  ·rfl
 refine hK.out _ _ trivial (fun hHeld => ?_)
 clear hK K
 refine norm_ (a' := ?_) ?_ ?_
 rotate_left
 ·show Act.put _ (some 10) _ = _
  simp only [Act.put, sA1, sA2, sA3, i64_w, i32_w]
  rfl
 refine done_ (by kernel_rfl) ?_
 go_wp2_with fail
 refine (rd_var 3 g leastL 42 0 1 w0 w2 HI2.out HB2.out (by decide) (by decide) (by decide +kernel) lv42).mono ?_
 rintro e w3 ⟨rfl, h1, h2, h3⟩
 have HI4 := am (show RD w0 w3.drew g leastL 43 0 0 from RD.drew h1)
 have HB4 := am (below_drew h2)
 have HE4 := am (show w3.drew.heap[w.heap.size]? = some (.cells Tryz.zeroCells81 81 (0, 0)) from (h3.2 w.heap.size (blk_lt HE2.out) (Ne.symm (Nat.ne_of_lt HGW.out)) (by simp)).trans HE2.out)
 have HKP5 := am (show KeepBut w w3.drew g none from keep_then HK2.out h3)
 clear h1 h2 h3
 go_wp2_with fail
 refine start_ (n := 5) (S := fun w' => True) (ds := []) #[false, false, false, false, false] (by kernel_rfl) rfl rfl trivial (fun hHeld => ?_)
 generalize w3.drew = W4 at *
 refine pu 0 (some 13) ?_ ?_ ?_ ?_ ?_
 rotate_left 2
 ·intro w'
  go_simp
  with_reducible rfl
 ·simp only [Act.put, sA1, sA2, sA3, i64_w, i32_w]
  rfl
 refine pu 1 (some 14) ?_ ?_ ?_ ?_ ?_
 rotate_left 2
 ·intro w'
  go_simp
  with_reducible rfl
 ·simp only [Act.put, sA1, sA2, sA3, i64_w, i32_w]
  rfl
 refine pu 2 (some 15) ?_ ?_ ?_ ?_ ?_
 rotate_left 2
 ·intro w'
  go_simp
  with_reducible rfl
 ·simp only [Act.put, sA1, sA2, sA3, i64_w, i32_w]
  rfl
 refine on (i := 3) (N := some 16) rfl rfl (by kernel_rfl) (by decide) (fun K hK => ?_)
 refine goes_ Tryz.func127 (by kernel_rfl) rfl #[.pointer (some ⟨g, 0, none⟩), .int .i64 32] (by rfl) rfl rfl (by simp only [List.map_toArray, List.map_cons, List.map_nil]; rfl) ?_
 with_reducible refine (num_Reader_Take.calls g leastL 43 0 0 32 (List.replicate 32 0) 75 0 0 w0 W4 HI4.out HB4.out lt43).mono ?_
 rintro e w5 ⟨v5, rfl, hr, h1, h2, h3⟩
 refine ⟨_, rfl, ?_⟩
 obtain ⟨A5, c5, rfl⟩ := Kd.R_slice hr
 have hrd := (Kd.R_reads' hr).2.2
 have HI5 := am h1
 have HB5 := am h2
 have hbe := (h3.2 w.heap.size (blk_lt HE4.out) (Ne.symm (Nat.ne_of_lt HGW.out)) (by simp)).trans HE4.out
 have HE5 := am hbe
 have HK5 := am (keep_then HKP5.out h3)
 have hcp := copy_noughts w5 w.heap.size 33 A5 c5 hrd hbe (by intro j hj; exact ents_at_hi j hj)
 clear hr h1 h2 h3 hbe hrd
 refine hK.out _ _ trivial (fun hHeld => ?_)
 clear hK K
 refine norm_ (a' := ?_) ?_ ?_
 rotate_left
 ·show Act.put _ (some 16) _ = _
  simp only [Act.put, sA1, sA2, sA3, i64_w, i32_w]
  rfl
 refine on (i := 4) (N := some 17) rfl rfl (by kernel_rfl) (by decide) (fun K hK => ?_)
 refine value_ (w1 := ?_) (v := ?_) (by rfl) rfl ?_ ?_
 rotate_left 2
 ·go_simp
  constructor
  ·rfl
  ·rfl
 refine hK.out _ _ trivial (fun hHeld => ?_)
 clear hK K
 refine norm_ (a' := ?_) ?_ ?_
 rotate_left
 ·show Act.put _ (some 17) _ = _
  simp only [Act.put, sA1, sA2, sA3, i64_w, i32_w]
  rfl
 refine done_ (by kernel_rfl) ?_
 go_wp2_with fail
 refine (rd_err g leastL 75 0 0 w0 w5 (HG.out.of_below HB5.out) HI5.out).mono ?_
 rintro e w6 ⟨rfl, h1⟩
 have HI6 := am (HI5.out.below h1)
 have HB6 := am (below_then HB5.out HB5.out.size h1)
 have HK6 := am (KeepBut.below_ HK5.out h1)
 have hb6 := (h1.block _ (blk_lt HE5.out)).trans HE5.out
 have hq := (blk_cell hb6 32).trans ents32
 have hf := blk_frozen hb6 32
 have hw1 := setCell_self w6 w.heap.size 32 (.int .i64 0) Tryz.zeroCells81 _ _ hb6 ents32
 have hw2 := setRow_self w6 w.heap.size Tryz.zeroCells81 _ _ hb6
 have HW1 := am hw1
 have HW2 := am hw2
 have HX := am (show (w6.setCell ⟨w.heap.size, 32, none⟩ (.int .i64 0)).heap[w.heap.size]? = some (.cells Tryz.zeroCells81 81 (0, 0)) from by rw [hw1]; exact hb6)
 have HE6 := am hb6
 have hone : Tryz.zeroCells81.all (·.oneCell') = true := by kernel_rfl
 clear h1 hb6 hw1 hw2
 go_wp2_with (first | (refine wpList_load_row rfl 81 (.tmp 2) rfl w.heap.size rfl 81 Tryz.zeroCells81 (0, 0) _ HX.out Tryz.underlying81 rfl (by rw [ents_size]; kernel_rfl) ?_) | (refine wpList_store_row rfl 81 (.tmp 2) (.tmp 33) rfl w.heap.size Tryz.zeroCells81 rfl rfl 81 Tryz.zeroCells81 HX.out (by rw [ents_size]; kernel_rfl) rfl hone ?_))
 rw [HW1.out, HW2.out]
 refine bodyPost_ret (v := .agg Tryz.zeroCells81) (results_cell_row rfl _ _ w.heap.size 81 Tryz.zeroCells81 (0, 0) _ rfl HE6.out Tryz.underlying81 rfl (by rw [ents_size]; kernel_rfl)) rfl ?_
 exact ⟨rfl, HI6.out, HB6.out, HK6.out⟩
end
end Go.Proofs.YtjmhiklmlgbifaaGreatDoor.PMan

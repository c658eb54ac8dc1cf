import Derived.Test.YtdabdhimidfofaaDoorGetsA
import Derived.Outline
import Derived.Handy
import Derived.Laws.Rows
import Derived.Test.YtdabdhimidfofaaDoorPFramex14
namespace Go.Proofs.YtdabdhimidfofaaDoor.PFrame
open Go.RowKit Go.Proofs.YtdabdhimidfofaaDoorW.PrintWords Go.Proofs.YtdabdhimidfofaaDoorW.PrintLast Go.Proofs.YtdabdhimidfofaaDoorW.PrintMore
attribute [local go_sem] max2_int min2_int max_two min_two max_three min_three max_four min_four   -- for this text's walks alone
set_option linter.unusedVariables false
set_option linter.unusedSimpArgs false

/-- What the document reads: the part, the frame's bytes, the error's number. -/
def estreatref04_Get.f (k : Nat) (l : List Int) : Option (List Int × Int × Int) :=
  (estreatref01_Reader_Fix.f l 0 0 0).bind fun a =>
  if a.2.2.1 = 0 ∧ a.1 > 16777216 then some ([], 0, 12) else
  (estreatref01_Reader_Fix.f l a.2.1 a.2.2.1 a.2.2.2).bind fun b =>
  (estreatref01_Reader_Take.f l b.2.1 b.2.2.1 b.2.2.2 (wrap64 a.1)).bind fun t =>
  if t.2.2.1 = 0 then
    (estreatref01_Fix.f k a.1 4).bind fun x => if x.length + t.1.length < 140737488355328 then
      (estreatref03_More.f k 0 (x ++ t.1)).bind fun s => if s = b.1 % 4294967296 then some (t.1, t.2.1, 0) else some ([], 0, 6)
    else none
  else some ([], 0, 2)
theorem estreatref04_Get.mono : ∀ a0 k, LeO (estreatref04_Get.f k a0) (estreatref04_Get.f (k + 1) a0) := by
  intro a0 k
  unfold estreatref04_Get.f
  repeat' first
      | (with_reducible exact LeO.refl _)
      | (with_reducible exact LeO.none _)
      | (with_reducible exact estreatref01_Fix.mono _ _ _)
      | (with_reducible exact estreatref03_More.mono _ _ _)
      | (with_reducible refine LeO.ite ?_ ?_)
      | (with_reducible refine LeO.bind ?_ (fun _ => ?_))
set_option maxHeartbeats 4000000 in
set_option maxRecDepth 100000 in
theorem estreatref04_Get.calls (k : Nat) (A0 : Option Addr) (c0 : Nat) (l : List Int) (r1 : List Int) (r2 r3 : Int) (w : World) (hr0 : Kd.C (Kd.int .u8) w A0 l.length l) (hc0 : l.length ≤ c0) (h : estreatref04_Get.f k l = some (r1, r2, r3)) :
    Calls Tryd.prog 14 #[.slice A0 l.length c0] w fun e w' => ∃ v0_ : Value, e = .returned (.agg #[v0_, .int .i64 r2, .int .i64 r3]) ∧ Kd.R (Kd.int .u8) 5 w' w.heap.size (fun _ => True) v0_ r1 ∧ Below w.heap.size w w' := by
  obtain ⟨⟨n, a1, a2, a3⟩, ha, h⟩ := Option.bind_eq_some_iff.mp h
  simp only at h
  have HR := Aside0.mk hr0
  have HC := Aside0.mk hc0
  have HA := Aside0.mk ha
  have H := Aside0.mk h
  clear hr0 hc0 ha h
  go_enter Tryd.func14, Tryd.ntmps14
  go_wp2_with fail
  have hbw : Below w.heap.size w (w.alloc (.cells #[.slice none 0 0, .int .i64 0, .int .i64 0] 35)) := below_alloc (Below.refl _ _) _
  have hres : (w.alloc (.cells #[.slice none 0 0, .int .i64 0, .int .i64 0] 35)).heap[w.heap.size]? = some (.cells #[.slice none 0 0, .int .i64 0, .int .i64 0] 35 (0, 0)) := heap_alloc_new w _
  have hsz : (w.alloc (.cells #[.slice none 0 0, .int .i64 0, .int .i64 0] 35)).heap.size = w.heap.size + 1 := by simp
  rw [← hsz]
  generalize w.alloc (.cells #[.slice none 0 0, .int .i64 0, .int .i64 0] 35) = W0 at *
  have hrr : RR W0 (W0.alloc (.cells #[.slice A0 l.length c0, .int .i64 0, .int .i64 0, .int .i64 0] 56)) W0.heap.size l 0 0 0 := ⟨A0, c0, heap_alloc_new W0 _, Nat.le_refl _, Kd.C_below HR.out hbw, HC.out⟩
  have hb0 : Below W0.heap.size W0 (W0.alloc (.cells #[.slice A0 l.length c0, .int .i64 0, .int .i64 0, .int .i64 0] 56)) := below_alloc (Below.refl _ _) _
  have HBW := Aside0.mk hbw
  have HRES := Aside0.mk hres
  have HSZ := Aside0.mk hsz
  have HRR := Aside0.mk hrr
  have HB0 := Aside0.mk hb0
  clear hbw hres hsz hrr hb0
  refine (estreatref01_Reader_Fix.calls W0.heap.size l 0 0 0 n a1 a2 a3 W0 _ HRR.out HB0.out HA.out).mono ?_
  clear HRR HB0 HA
  rintro e w2 ⟨rfl, hrr, hb, _⟩
  have HR1 := Aside0.mk hrr
  have HB1 := Aside0.mk hb
  have hx : w2.heap[w.heap.size]? = some (.cells #[.slice none 0 0, .int .i64 0, .int .i64 0] 35 (0, 0)) := (hb.block _ (by have := HSZ.out; omega)).trans HRES.out
  obtain ⟨A, c, k1, k2, k3, k4⟩ := hrr
  have hc2 := blk_cell k1 2
  simp only [List.getElem?_toArray] at hc2
  have HX := Aside0.mk hx
  clear k1 k2 k3 k4 hx hb
  by_cases q : a2 = 0 ∧ n > 16777216
  · obtain ⟨rfl, q⟩ := q
    have q1 : decide ((16777216 : Int) < n) = true := decide_eq_true q
    have hx0 := blk_cell HX.out 0
    have hx1 := blk_cell HX.out 1
    have hx2 := blk_cell HX.out 2
    simp only [List.getElem?_toArray] at hx0 hx1 hx2
    have hf0 := blk_frozen HX.out 0
    have hf1 := blk_frozen HX.out 1
    have hf2 := blk_frozen HX.out 2
    clear q
    have h := H.out
    rw [if_pos ⟨rfl, by simpa using q1⟩] at h
    simp only [Option.some.injEq, Prod.mk.injEq] at h
    obtain ⟨rfl, rfl, rfl⟩ := h
    go_wp2
    refine bodyPost_ret (v := .agg #[.slice none 0 0, .int .i64 0, .int .i64 12]) (results_cell_row rfl _ _ w.heap.size 35 #[.slice none 0 0, .int .i64 0, .int .i64 12] (0, 0) _ rfl (by simpa using blk_set (blk_set (blk_set HX.out 0 (.slice none 0 0)) 1 (.int .i64 0)) 2 (.int .i64 12)) Tryd.underlying35 rfl (by kernel_rfl)) rfl ?_
    exact ⟨_, rfl, Kd.R_nil _ _ _ _ _, (((HBW.out.trans (HB1.out.mono HBW.out.size)).setCell (Nat.le_refl _) _).setCell (Nat.le_refl _) _).setCell (Nat.le_refl _) _⟩
  · have h := H.out
    rw [if_neg q] at h
    obtain ⟨⟨sm, b1, b2, b3⟩, hb2, h⟩ := Option.bind_eq_some_iff.mp h
    obtain ⟨⟨p, t1, t2, t3⟩, ht, h⟩ := Option.bind_eq_some_iff.mp h
    simp only at ht h
    have HF2 := Aside0.mk hb2
    have HT := Aside0.mk ht
    have H := Aside0.mk h
    clear h hb2 ht
    have hq : (a2 == 0) = false ∨ ((a2 == 0) = true ∧ decide ((16777216 : Int) < n) = false) := by
      by_cases e : a2 = 0
      · exact .inr ⟨by simpa using e, decide_eq_false (fun hh => q ⟨e, hh⟩)⟩
      · exact .inl (by simpa using e)
    clear q
    rcases hq with hq | ⟨hq, hq2⟩
    all_goals
      go_wp2_with fail
      refine (estreatref01_Reader_Fix.calls W0.heap.size l a1 a2 a3 sm b1 b2 b3 W0 _ HR1.out HB1.out HF2.out).mono ?_
      rintro e w3 ⟨rfl, hrr, hb, _⟩
      have HR2 := Aside0.mk hrr
      have HB2 := Aside0.mk hb
      clear hrr hb
      go_wp2_with fail
      refine (estreatref01_Reader_Take.calls W0.heap.size l b1 b2 b3 (wrap64 n) p t1 t2 t3 W0 _ HR2.out HB2.out HT.out).mono ?_
      rintro e w4 ⟨v, rfl, hp, hrr, hb, _⟩
      have HP := Aside0.mk hp
      have HR3 := Aside0.mk hrr
      have HB3 := Aside0.mk hb
      have hx : w4.heap[w.heap.size]? = some (.cells #[.slice none 0 0, .int .i64 0, .int .i64 0] 35 (0, 0)) := (hb.block _ (by have := HSZ.out; omega)).trans HRES.out
      obtain ⟨A2, c2, k1, k2, k3, k4⟩ := hrr
      have hc1 := blk_cell k1 1
      have hc2 := blk_cell k1 2
      simp only [List.getElem?_toArray] at hc1 hc2
      have HX4 := Aside0.mk hx
      have hx0 := blk_cell HX4.out 0
      have hx1 := blk_cell HX4.out 1
      have hx2 := blk_cell HX4.out 2
      simp only [List.getElem?_toArray] at hx0 hx1 hx2
      have hf0 := blk_frozen HX4.out 0
      have hf1 := blk_frozen HX4.out 1
      have hf2 := blk_frozen HX4.out 2
      obtain ⟨Av, cv, rfl⟩ := Kd.R_slice hp
      clear k1 k2 k3 k4 hx hb hp hq
      by_cases q4 : t2 = 0
      · subst q4
        have h := H.out
        rw [if_pos rfl] at h
        obtain ⟨x, hxx, h⟩ := Option.bind_eq_some_iff.mp h
        by_cases q5 : x.length + p.length < 140737488355328
        · rw [if_pos q5] at h
          obtain ⟨sv, hsv, h⟩ := Option.bind_eq_some_iff.mp h
          obtain ⟨y, hy⟩ : ∃ y, y = x ++ p := ⟨_, rfl⟩
          rw [← hy] at hsv
          have HY := Aside0.mk hy
          have HXX := Aside0.mk hxx
          have HSV := Aside0.mk hsv
          have HQ5 := Aside0.mk q5
          have HE := Aside0.mk h
          clear hxx hsv q5 h hy hx0 hx1 hx2 hf0 hf1 hf2
          go_wp2_with fail
          refine (estreatref01_Fix.calls k n 4 x _ HXX.out).mono ?_
          rintro e w5 ⟨vx, rfl, hrx, hbx⟩
          have HX5 := Aside0.mk hrx
          have HB5 := Aside0.mk hbx
          have HP5 := Aside0.mk (Kd.R_below HP.out hbx)
          clear hrx hbx
          go_wp2_with ((with_reducible refine gate_builtin (b := .append) (xs := #[.tmp 35, .tmp 36]) rfl ?_); (try (refine gate_guard (by rfl) ?_; dsimp only)); at_builtin; refine Kd.R_append_rows (Kd.int .u8) (w0 := w4) w4.heap.size rfl (.tmp 35) (.tmp 36) 22 5 (.int .u8 0) 1 rfl Tryd.underlying22 info5 rfl (by decide) (by omega) vx x p _ _ _ (fun k_ => some k_ ≠ (.slice Av p.length cv : Value).ownBlock) (fun _ => False) rfl rfl (Kd.R_mono (Kd.R_new' HX5.out (Kd.R_lt HP.out)) (fun _ hk => hk.2)) (Kd.R_reads' HP5.out).2.2 (fun _ _ h => h) (fun _ h => h.elim) (fun k_ hk => Kd.fresh' (Kd.R_lt HP5.out) k_ hk) HB5.out HB5.out.size (by have := HQ5.out; omega) ?_; intro v6 w6 ho hb hg hat; rw [← HY.out] at ho; have HP6 := Aside0.mk (Kd.R_after (ok := (fun _ => True)) (Kd.R_elder' HP.out (Kd.R_base HX5.out) HB5.out) hg hat); have HO6 := Aside0.mk ho; have HB6 := Aside0.mk hb; obtain ⟨A6, c6, e6⟩ := Kd.R_slice ho; subst e6; clear ho hb hg hat)
          refine (estreatref03_More.calls k 0 A6 c6 y sv _ (Kd.R_reads' HO6.out).2.2 (Kd.R_reads' HO6.out).2.1 HSV.out).mono ?_
          rintro e w7 ⟨rfl, ⟨nd, rfl⟩⟩
          have HX6 := Aside0.mk ((HB6.out.block _ (blk_lt HX4.out)).trans HX4.out)
          have hc1 := pw_cell_below HB6.out hc1
          have hx0 := blk_cell (blk_drewN HX6.out nd) 0
          have hx1 := blk_cell (blk_drewN HX6.out nd) 1
          have hx2 := blk_cell (blk_drewN HX6.out nd) 2
          simp only [List.getElem?_toArray] at hx0 hx1 hx2
          have hf0 := blk_frozen (blk_drewN HX6.out nd) 0
          have hf1 := blk_frozen (blk_drewN HX6.out nd) 1
          have hf2 := blk_frozen (blk_drewN HX6.out nd) 2
          have HBE := Aside0.mk (pw_below_drewN (HBW.out.trans ((HB3.out.mono HBW.out.size).trans (HB6.out.mono (by have := HBW.out.size; have := HB3.out.size; omega)))) nd)
          have h := HE.out
          by_cases q6 : sv = sm % 4294967296
          · have d6 : (sv != sm % 4294967296) = false := bne_eq_false_iff_eq.mpr q6
            rw [if_pos q6] at h
            simp only [Option.some.injEq, Prod.mk.injEq] at h
            obtain ⟨rfl, rfl, rfl⟩ := h
            clear q6
            go_wp2
            refine bodyPost_ret (v := .agg #[.slice Av p.length cv, .int .i64 t1, .int .i64 0]) (results_cell_row rfl _ _ w.heap.size 35 #[.slice Av p.length cv, .int .i64 t1, .int .i64 0] (0, 0) _ rfl (by simpa using blk_set (blk_set (blk_set (blk_drewN HX6.out nd) 0 (.slice Av p.length cv)) 1 (.int .i64 t1)) 2 (.int .i64 0)) Tryd.underlying35 rfl (by kernel_rfl)) rfl ?_
            have e0 := blk_drewN HX6.out nd
            have e1 := blk_set e0 0 (.slice Av p.length cv)
            have e2 := blk_set e1 1 (.int .i64 t1)
            have hlow : w.heap.size ≤ w3.heap.size := by have := HBW.out.size; have := HB2.out.size; omega
            exact ⟨_, rfl, Kd.R_set (Kd.R_set (Kd.R_set (Kd.R_mono (Kd.R_drewN (Kd.R_lower HP6.out hlow) nd) (fun _ _ => trivial)) e0 (by decide) 0 _) e1 (by decide) 1 _) e2 (by decide) 2 _, ((HBE.out.setCell (Nat.le_refl _) _).setCell (Nat.le_refl _) _).setCell (Nat.le_refl _) _⟩
          · have d6 : (sv != sm % 4294967296) = true := bne_iff_ne.mpr q6
            rw [if_neg q6] at h
            simp only [Option.some.injEq, Prod.mk.injEq] at h
            obtain ⟨rfl, rfl, rfl⟩ := h
            clear q6
            go_wp2
            refine bodyPost_ret (v := .agg #[.slice none 0 0, .int .i64 0, .int .i64 6]) (results_cell_row rfl _ _ w.heap.size 35 #[.slice none 0 0, .int .i64 0, .int .i64 6] (0, 0) _ rfl (by simpa using blk_set (blk_set (blk_set (blk_drewN HX6.out nd) 0 (.slice none 0 0)) 1 (.int .i64 0)) 2 (.int .i64 6)) Tryd.underlying35 rfl (by kernel_rfl)) rfl ?_
            exact ⟨_, rfl, Kd.R_nil _ _ _ _ _, ((HBE.out.setCell (Nat.le_refl _) _).setCell (Nat.le_refl _) _).setCell (Nat.le_refl _) _⟩
        · rw [if_neg q5] at h
          cases h
      · have h := H.out
        rw [if_neg q4] at h
        simp only [Option.some.injEq, Prod.mk.injEq] at h
        obtain ⟨rfl, rfl, rfl⟩ := h
        have q5 : (t2 != 0) = true := by simpa using q4
        clear q4
        go_wp2
        refine bodyPost_ret (v := .agg #[.slice none 0 0, .int .i64 0, .int .i64 2]) (results_cell_row rfl _ _ w.heap.size 35 #[.slice none 0 0, .int .i64 0, .int .i64 2] (0, 0) _ rfl (by simpa using blk_set (blk_set (blk_set HX4.out 0 (.slice none 0 0)) 1 (.int .i64 0)) 2 (.int .i64 2)) Tryd.underlying35 rfl (by kernel_rfl)) rfl ?_
        exact ⟨_, rfl, Kd.R_nil _ _ _ _ _, (((HBW.out.trans (HB3.out.mono HBW.out.size)).setCell (Nat.le_refl _) _).setCell (Nat.le_refl _) _).setCell (Nat.le_refl _) _⟩

end Go.Proofs.YtdabdhimidfofaaDoor.PFrame

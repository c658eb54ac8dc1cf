/- Texts, put into one. -/
import Derived.Test.YtjmhiklmlgbifaaGreatDoorPT42
import Derived.Test.YtjmhiklmlgbifaaGreatDoorPTW
set_option linter.unusedVariables false
set_option linter.unusedSimpArgs false
open Go Go.RowKit Go.Proofs.YtjmhiklmlgbifaaGreatDoorW.PrintWords Go.Proofs.YtjmhiklmlgbifaaGreatDoorW.PrintLast Go.Proofs.YtjmhiklmlgbifaaGreatDoorW.PrintMore
namespace Go.Proofs.YtjmhiklmlgbifaaGreatDoor.PMan
section
attribute [local go_sem] max2_int min2_int max_two min_two
theorem alloc_size (w : World) (o : Obj) : (w.alloc o).heap.size = w.heap.size + 1 := by simp
theorem N_store {α : Type} {d : Kd α} {e base : Nat} {ok : Nat → Prop} {w W : World} {g mb : Nat} {s0 : List Int} {q : St} {C : Array Value} {v : Value} {xs : List α} (h : d.R e W base ok v xs) (hm : Nr w W g mb s0 q C) (ht : ∀ t, t ∈ e :: d.E → t ≠ 27) (i : Nat) (x : Value) : d.R e (W.setCell ⟨mb, i, none⟩ x) base ok v xs := Kd.R_set h hm.mbk ht i x
set_option maxHeartbeats 64000000 in
set_option maxRecDepth 100000 in
theorem refTake_core (kk : Nat) (A0 : Option Addr) (c0 : Nat) (b p : List Int) (n ec : Int) (w : World) (hr0 : Kd.C (Kd.int .u8) w A0 b.length b) (hc0 : b.length ≤ c0) (hf : estreatref04_Get.f kk b = some (p, n, ec))
  (a1 a2 a3 n5 n8 : Int) (q1 q2 q3 q4 q5 q6 q7 q8 q9 : St) (sc : List S123) (gl : List Rf) (ll : List (List S68)) (el : List En)
  (e1 : numQ 1099511627776 p q0 = (a1, q1)) (e2 : numQ 1099511627776 p q1 = (a2, q2)) (e3 : numQ 1099511627776 p q2 = (a3, q3)) (e4 : schQ p q3 = (sc, q4)) (e5 : numQ 1099511627776 p q4 = (n5, q5)) (e6 : grpsQ p sc n5.toNat [] q5 = (gl, q6)) (e7 : takeRowsQ p sc q6 = (ll, q7)) (e8 : numQ 1099511627776 p q7 = (n8, q8)) (e9 : entsQ p n8.toNat [] q8 = (el, q9))
  (hP : ec = 0 → ByteL p ∧ p.length < 1000000000 ∧ sc.length ≤ 1000000 ∧ (0 ≤ n5 ∧ n5 ≤ 1099511627777) ∧ (0 ≤ n8 ∧ n8 ≤ 1099511627777))
  (good : Prop) [Decidable good] (hgood : good = (endQ p q9 = 0 ∧ checkP ⟨a1, a2, sc, a3, gl, ll, el⟩ = 0))
  (r : Mn × Int) (hr : r = if ec = 0 then (if n < (b.length : Int) then (zMn, 3) else if good then (⟨a1, a2, sc, a3, gl, ll, el⟩, 0) else (zMn, 4)) else (zMn, ec)) :
  Calls Tryz.prog 19 #[.slice A0 b.length c0] w fun ev w' => TakeA w w' ev r.1 r.2 := by
 have HR0 := am hr0
 have HC0 := am hc0
 have HF := am hf
 have E1 := am e1
 have E2 := am e2
 have E3 := am e3
 have E4 := am e4
 have E5 := am e5
 have E6 := am e6
 have E7 := am e7
 have E8 := am e8
 have E9 := am e9
 have HP := am hP
 have HGOOD := am hgood
 have HRES := am hr
 clear hr0 hc0 hf e1 e2 e3 e4 e5 e6 e7 e8 e9 hP hgood hr
 go_enter Tryz.func19, Tryz.ntmps19
 go_wp2_with fail
 have hm0 : (w.alloc (.cells (MC 0 0 nilS 0 nilS nilS nilS) 27)).heap[w.heap.size]? = some (.cells (MC 0 0 nilS 0 nilS nilS nilS) 27 (0, 0)) := heap_alloc_new w _
 have hb0 : Below w.heap.size w (w.alloc (.cells (MC 0 0 nilS 0 nilS nilS nilS) 27)) := below_alloc (Below.refl _ _) _
 have HX0 := am hm0
 have HB0 := am hb0
 have HR1 := am (Kd.C_below HR0.out hb0)
 clear hm0 hb0
 generalize w.alloc (.cells (MC 0 0 nilS 0 nilS nilS nilS) 27) = W0 at *
 refine (estreatref04_Get.calls kk A0 c0 b p n ec W0 HR1.out HC0.out HF.out).mono ?_
 rintro e w1 ⟨v, rfl, hv, hb⟩
 obtain ⟨A, c, rfl⟩ := Kd.R_slice hv
 have hal : Below w1.heap.size w1 (w1.alloc (.cells #[.slice A p.length c, .int .i64 n, .int .i64 ec] 105)) := below_alloc (Below.refl _ _) _
 have HX1 := am ((hal.block _ (Nat.lt_of_lt_of_le (blk_lt HX0.out) hb.size)).trans ((hb.block _ (blk_lt HX0.out)).trans HX0.out))
 have hB1 := below_then HB0.out HB0.out.size hb
 have HB1 := am (below_then hB1 hB1.size hal)
 have hV1 := Kd.R_below hv hal
 have HRD := am (Kd.R_reads' hV1)
 have HY1 := am (heap_alloc_new w1 (.cells #[.slice A p.length c, .int .i64 n, .int .i64 ec] 105))
 have HWL := am (show w.heap.size < (w1.alloc (.cells #[.slice A p.length c, .int .i64 n, .int .i64 ec] 105)).heap.size from blk_lt HX1.out)
 clear hv hb hal hB1 hV1 HR0 HR1 HX0 HB0
 have y0 : (w1.alloc (.cells #[.slice A p.length c, .int .i64 n, .int .i64 ec] 105)).cell? ⟨w1.heap.size, 0, none⟩ = some (.slice A p.length c) := blk_cell HY1.out 0
 have y1 : (w1.alloc (.cells #[.slice A p.length c, .int .i64 n, .int .i64 ec] 105)).cell? ⟨w1.heap.size, 1, none⟩ = some (.int .i64 n) := blk_cell HY1.out 1
 have y2 : (w1.alloc (.cells #[.slice A p.length c, .int .i64 n, .int .i64 ec] 105)).cell? ⟨w1.heap.size, 2, none⟩ = some (.int .i64 ec) := blk_cell HY1.out 2
 by_cases h0 : ec = 0
 case neg =>
  have e := HRES.out
  rw [if_neg h0] at e
  have HRR := am e
  have hne : (ec != 0) = true := by simpa using h0
  clear e h0
  go_wp2_with (refine wpList_store_row rfl 105 (.tmp 4) (.tmp 14) rfl w1.heap.size #[.slice A p.length c, .int .i64 n, .int .i64 ec] rfl rfl 105 _ (heap_alloc_new w1 _) (by kernel_rfl) rfl (by kernel_rfl) ?_; rw [World.setRow_alloc_new])
  generalize w1.alloc (.cells #[.slice A p.length c, .int .i64 n, .int .i64 ec] 105) = wa at *
  generalize w1.heap.size = yb at *
  have yd : wa.drew.cell? ⟨yb, 2, none⟩ = some (.int .i64 ec) := y2
  have HXd : Aside0 (wa.drew.heap[w.heap.size]? = _) := am HX1.out
  have HBd : Aside0 (Below w.heap.size w wa.drew) := am (below_drew HB1.out)
  refine start_ (n := 5) (S := fun w' => w'.cell? ⟨yb, 2, none⟩ = some (.int .i64 ec)) (ds := []) #[false, false, false, false, false] (by kernel_rfl) rfl rfl (yd) (fun hHeld => ?_)
  generalize wa.drew = wd at *
  refine pu 0 (some 18) ?_ ?_ ?_ ?_ ?_
  rotate_left 2
  ·intro w'
   go_simp
   with_reducible rfl
  ·simp only [Act.put, sA1, sA2, sA3, i64_w, i32_w]
   rfl
  refine pu 1 (some 19) ?_ ?_ ?_ ?_ ?_
  rotate_left 2
  ·intro w'
   go_simp
   with_reducible rfl
  ·simp only [Act.put, sA1, sA2, sA3, i64_w, i32_w]
   rfl
  refine tk 2 (some 20) ?_ ?_ hHeld ?_ ?_ ?_
  rotate_left 2
  ·intro w' s0
   go_simp
   with_reducible rfl
  ·simp only [Act.put, sA1, sA2, sA3, i64_w, i32_w]
   rfl
  refine on (i := 3) (N := none) rfl rfl (by kernel_rfl) (by decide) (fun K hK => ?_)
  refine skip_ (w1 := ?_) (by rfl) rfl ?_ ?_
  rotate_left
  ·refine exec_store_row 27 (.tmp 2) (.tmp 18) ?_ w.heap.size (MC 0 0 nilS 0 nilS nilS nilS) ?_ ?_ 27 _ HXd.out ?_ ?_ ?_
   ·rfl
   ·rfl
   ·rfl
   ·kernel_rfl
   ·rfl
   ·kernel_rfl
  rw [setRow_self wd w.heap.size _ _ _ HXd.out]
  refine hK.out _ _ (yd) (fun hHeld => ?_)
  clear hK K
  refine pu 4 (some 3) ?_ ?_ ?_ ?_ ?_
  rotate_left 2
  ·intro w'
   go_simp
   with_reducible rfl
  ·simp only [Act.put, sA1, sA2, sA3, i64_w, i32_w]
   rfl
  refine done_ (by kernel_rfl) ?_
  go_wp2_with fail
  refine bodyPost_ret (v := .tuple #[.agg (MC 0 0 nilS 0 nilS nilS nilS), .int .i64 ec]) (results_cr_tmp (p := 2) (u := 3) rfl _ _ w.heap.size 27 (MC 0 0 nilS 0 nilS nilS nilS) (0, 0) _ rfl HXd.out Tryz.underlying27 rfl (by kernel_rfl)) rfl ?_
  rw [HRR.out]
  exact ⟨⟨none, 0, none, 0, none, 0, none, 0, rfl, MnC_zero _⟩, HBd.out⟩
 have hne : (ec != 0) = false := by simpa using h0
 have e := HRES.out
 rw [if_pos h0] at e
 have HE0 := am h0
 clear h0
 by_cases hn : n < (b.length : Int)
 case pos =>
  rw [if_pos hn] at e
  have HRR := am e
  clear e
  go_wp2_with (first | (refine wpList_store_row rfl 105 (.tmp 4) (.tmp 14) rfl w1.heap.size #[.slice A p.length c, .int .i64 n, .int .i64 ec] rfl rfl 105 _ (heap_alloc_new w1 _) (by kernel_rfl) rfl (by kernel_rfl) ?_; rw [World.setRow_alloc_new]) | (refine wpList_store_row rfl 27 (.tmp 2) (.tmp 26) rfl w.heap.size (MC 0 0 nilS 0 nilS nilS nilS) rfl rfl 27 (MC 0 0 nilS 0 nilS nilS nilS) HX1.out (by kernel_rfl) rfl (by kernel_rfl) ?_))
  generalize w1.alloc (.cells #[.slice A p.length c, .int .i64 n, .int .i64 ec] 105) = wa at *
  generalize w1.heap.size = yb at *
  rw [setRow_self wa w.heap.size _ _ _ HX1.out]
  refine bodyPost_ret (v := .tuple #[.agg (MC 0 0 nilS 0 nilS nilS nilS), .int .i64 3]) (results_cr_tmp (p := 2) (u := 3) rfl _ _ w.heap.size 27 (MC 0 0 nilS 0 nilS nilS nilS) (0, 0) _ rfl HX1.out Tryz.underlying27 rfl (by kernel_rfl)) rfl ?_
  rw [HRR.out]
  exact ⟨⟨none, 0, none, 0, none, 0, none, 0, rfl, MnC_zero _⟩, HB1.out⟩
 rw [if_neg hn] at e
 have HRS := am e
 clear e
 obtain ⟨hby, hlen, hsc, rg5, rg8⟩ := HP.out HE0.out
 have HSC := am hsc
 obtain ⟨N5, rfl⟩ := Int.eq_ofNat_of_zero_le rg5.1
 obtain ⟨N8, rfl⟩ := Int.eq_ofNat_of_zero_le rg8.1
 have hN5 : N5 ≤ 1099511627777 := by omega
 have hN8 : N8 ≤ 1099511627777 := by omega
 rw [Int.toNat_natCast] at E6 E9
 have hbw : Below (w1.alloc (.cells #[.slice A p.length c, .int .i64 n, .int .i64 ec] 105)).heap.size (w1.alloc (.cells #[.slice A p.length c, .int .i64 n, .int .i64 ec] 105)) ((w1.alloc (.cells #[.slice A p.length c, .int .i64 n, .int .i64 ec] 105)).alloc (.cells #[.slice A p.length c, .int .i64 0, .int .i64 0, .int .i64 0] 109)) := below_alloc (Below.refl _ _) _
 have HRa : Aside0 (Rr (w1.alloc (.cells #[.slice A p.length c, .int .i64 n, .int .i64 ec] 105)) ((w1.alloc (.cells #[.slice A p.length c, .int .i64 n, .int .i64 ec] 105)).alloc (.cells #[.slice A p.length c, .int .i64 0, .int .i64 0, .int .i64 0] 109)) (w1.alloc (.cells #[.slice A p.length c, .int .i64 n, .int .i64 ec] 105)).heap.size p q0) := am ⟨⟨A, c, heap_alloc_new (w1.alloc (.cells #[.slice A p.length c, .int .i64 n, .int .i64 ec] 105)) _, Nat.le_refl _, HRD.out.2.2, HRD.out.2.1⟩, hbw, ⟨hby, hlen, Int.le_refl 0, Int.natCast_nonneg _⟩⟩
 have HX2 := am ((hbw.block _ (blk_lt HX1.out)).trans HX1.out)
 have HB2 := am (below_then HB1.out HB1.out.size hbw)
 clear hsc rg5 rg8 hby hlen hbw HP HRD
 have hys : (w1.alloc (.cells #[.slice A p.length c, .int .i64 n, .int .i64 ec] 105)).heap.size = w1.heap.size + 1 := alloc_size _ _
 have HYS := am hys
 clear hys
 go_wp2_with (refine wpList_store_row rfl 105 (.tmp 4) (.tmp 14) rfl w1.heap.size #[.slice A p.length c, .int .i64 n, .int .i64 ec] rfl rfl 105 _ (heap_alloc_new w1 _) (by kernel_rfl) rfl (by kernel_rfl) ?_; rw [World.setRow_alloc_new])
 rw [← HYS.out]
 clear HYS
 generalize w1.alloc (.cells #[.slice A p.length c, .int .i64 n, .int .i64 ec] 105) = wa at *
 generalize w1.heap.size = yb at *
 clear hne
 generalize wa.alloc (.cells #[.slice A p.length c, .int .i64 0, .int .i64 0, .int .i64 0] 109) = wb at *
 have hN := rNumber57 wa wb wa.heap.size p q0 HRa.out
 rw [E1.out] at hN
 have HN := am hN
 have HGW := HWL.out
 clear hN
 generalize wa.heap.size = g at *
 refine HN.out.mono ?_
 rintro e w2 ⟨rfl, hr, hk⟩
 have hal : Below w2.heap.size w2 (w2.alloc (.cells (MC a1 0 nilS 0 nilS nilS nilS) 27)) := below_alloc (Below.refl _ _) _
 have hb2 := base_call HB2.out HRa.out.bel hr.bel hk (by have := HRa.out.ge; omega)
 have HM3 : Aside0 (Nr w (w2.alloc (.cells (MC a1 0 nilS 0 nilS nilS nilS) 27)) g w2.heap.size p q1 (MC a1 0 nilS 0 nilS nilS nilS)) := am ⟨⟨wa, hr.below hal⟩, heap_alloc_new w2 _, (hal.block _ (Nat.lt_of_lt_of_le (blk_lt HX2.out) hk.1)).trans (KeepBut.at_ hk HX2.out (by omega)), below_then hb2 hb2.size hal, HGW, hr.lt⟩
 clear hal hb2 hr hk HN HX2 HB2 HRa HX1 HB1 HY1 y0 y1 y2
 go_wp2_with (refine wpList_store_row rfl 27 (.tmp 6) (.tmp 33) rfl w2.heap.size (MC a1 0 nilS 0 nilS nilS nilS) rfl rfl 27 _ (heap_alloc_new w2 _) (by kernel_rfl) rfl (by kernel_rfl) ?_; rw [World.setRow_alloc_new])
 generalize w2.alloc (.cells (MC a1 0 nilS 0 nilS nilS nilS) 27) = w3 at *
 generalize w2.heap.size = mb at *
 refine (nNumber HM3.out E2.out).mono ?_
 rintro e w4 ⟨rfl, hm, hk⟩
 have HM4 := am hm
 have c1 : w4.cell? ⟨mb, 1, none⟩ = some (.int .i64 0) := HM4.out.mcell 1
 have f1 := HM4.out.mfree 1
 clear hm hk
 have HM5 : Aside0 (Nr w (w4.setCell ⟨mb, 1, none⟩ (.int .i64 a2)) g mb p q2 (MC a1 a2 nilS 0 nilS nilS nilS)) := am (HM4.out.store 1 (.int .i64 a2))
 go_wp2_with fail
 generalize w4.setCell ⟨mb, 1, none⟩ (.int .i64 a2) = w5 at *
 clear c1 f1 HM3 HM4
 refine (nNumber HM5.out E3.out).mono ?_
 rintro e w6 ⟨rfl, hm, hk⟩
 have HM6 := am hm
 have c3 : w6.cell? ⟨mb, 3, none⟩ = some (.int .i64 0) := HM6.out.mcell 3
 have f3 := HM6.out.mfree 3
 clear hm hk
 have HM7 : Aside0 (Nr w (w6.setCell ⟨mb, 3, none⟩ (.int .i64 a3)) g mb p q3 (MC a1 a2 nilS a3 nilS nilS nilS)) := am (HM6.out.store 3 (.int .i64 a3))
 go_wp2_with fail
 generalize w6.setCell ⟨mb, 3, none⟩ (.int .i64 a3) = w7 at *
 clear c3 f3 HM5 HM6
 refine (nSchema HM7.out E4.out).mono ?_
 rintro e w8 ⟨As, cs, rfl, hs, hm, hk⟩
 have HM8 := am hm
 have HS8 := am hs
 have c2 : w8.cell? ⟨mb, 2, none⟩ = some nilS := HM8.out.mcell 2
 have f2 := HM8.out.mfree 2
 clear hm hk hs
 have HM9 : Aside0 (Nr w (w8.setCell ⟨mb, 2, none⟩ (.slice As sc.length cs)) g mb p q4 (MC a1 a2 (.slice As sc.length cs) a3 nilS nilS nilS)) := am (HM8.out.store 2 (.slice As sc.length cs))
 have HS9 := am (N_store HS8.out HM8.out (by decide) 2 (.slice As sc.length cs))
 go_wp2_with fail
 generalize w8.setCell ⟨mb, 2, none⟩ (.slice As sc.length cs) = w9 at *
 clear c2 f2 HM7 HM8 HS8
 refine (nNumber HM9.out E5.out).mono ?_
 rintro e wbb ⟨rfl, hm, hk⟩
 have HMb := am hm
 have HSb := am (R_past HS9.out (Nat.lt_succ_self g) hk)
 clear hm hk HM9 HS9
 go_wp2_with fail
 go_loopw [8] (fun v8 w' => ∃ (i : Nat) (l : List Rf) (q' : St) (Ag : Option Addr) (cg : Nat), i ≤ N5 ∧ v8 = .int .i64 i ∧ l.length ≤ i ∧ Aside0 (Nr w w' g mb p q' (MC a1 a2 (.slice As sc.length cs) a3 (.slice Ag l.length cg) nilS nilS)) ∧ Aside0 (Kd.R k123 123 w' (g + 1) (fun _ => True) (.slice As sc.length cs) sc) ∧ Aside0 (Kd.R kRf 66 w' (g + 1) (fun _ => True) (.slice Ag l.length cg) l) ∧ Aside0 (grpsQ p sc (N5 - i) l q' = (gl, q6))) (fun v _ => N5 - (intOf v).toNat)
 case atStart => exact ⟨0, [], q5, none, 0, Nat.zero_le _, rfl, Nat.le_refl _, HMb, HSb, ⟨Kd.R_nil _ _ _ _ _⟩, E6⟩
 case round =>
  obtain ⟨i, l, q', Ag, cg, hi, rfl, hl, HMr, HSr, HGr, HQ⟩ := hrel
  have er := HMr.out.err
  by_cases hz : q'.2.1 = 0
  ·rw [hz] at er
   by_cases hlt : i < N5
   ·have hst : grpsQ p sc (N5 - (i + 1)) (l ++ [(grpQ p sc q').1]) (grpQ p sc q').2 = (gl, q6) := by rw [← HQ.out, show N5 - i = (N5 - (i + 1)) + 1 by omega, grpsQ, if_pos hz]
    unfold grpQ at hst
    have hi1 := HMr.out.inn
    obtain ⟨x1, qa, ea⟩ : ∃ a b, numQ 1099511627776 p q' = (a, b) := ⟨_, _, rfl⟩
    have hi2 := numQ_in (lim := 1099511627776) hi1
    rw [ea] at hi2
    obtain ⟨hd, qb, eb⟩ : ∃ a b, headQ p sc qa = (a, b) := ⟨_, _, rfl⟩
    have hdd := headQ_dead (s := sc) hi2
    rw [eb] at hdd
    obtain ⟨x, y, dd, cols⟩ := hd
    dsimp only at hdd
    obtain ⟨f, rfl⟩ : ∃ f, dd = HL f := ⟨_, range_fn dd hdd⟩
    obtain ⟨dl, qc, ec⟩ : ∃ a b, blobQ p 65536 qb = (a, b) := ⟨_, _, rfl⟩
    simp only [ea, eb, ec] at hst
    have EA := am ea
    have EB := am eb
    have EC := am ec
    have HST := am hst
    clear ea eb ec hst hi1 hi2 hdd hz HQ
    obtain ⟨B, hB⟩ : ∃ B, B = wr.heap.size := ⟨_, rfl⟩
    have HGc := am (Kd.R_mono (ok' := fun k => k < B) (Kd.R_bound HGr.out) (fun k hk => by rw [hB]; exact hk.2.2.1))
    have HBG := am (show g + 1 ≤ B by have := HMr.out.lt; omega)
    have HBc : Aside0 (B ≤ wr.heap.size) := am (Nat.le_of_eq hB)
    clear hB HGr
    go_wp2_with fail
    refine (nNumber HMr.out EA.out).mono ?_
    rintro e wc ⟨rfl, hm, hk⟩
    have hal : Below wc.heap.size wc (wc.alloc (.cells (RFL x1 0 0 (fun _ => 0) none 0 0 none 0 0).toArray 66)) := below_alloc (Below.refl _ _) _
    have HMd := am (hm.below hal)
    have HSd := am (Kd.R_below (R_past HSr.out (Nat.lt_succ_self g) hk) hal)
    have HGd := am (Kd.R_below (R_past HGc.out (Nat.lt_succ_self g) hk) hal)
    have HBd := am (Nat.le_trans (Nat.le_trans HBc.out hk.1) hal.size)
    have HZd := am (heap_alloc_new wc (.cells (RFL x1 0 0 (fun _ => 0) none 0 0 none 0 0).toArray 66))
    have HGB := am (show B ≤ wc.heap.size from Nat.le_trans HBc.out hk.1)
    have HGM := am (show mb ≠ wc.heap.size from (by have := blk_lt hm.mbk; omega))
    have d2 : (wc.alloc (.cells (RFL x1 0 0 (fun _ => 0) none 0 0 none 0 0).toArray 66)).cell? ⟨mb, 2, none⟩ = some (.slice As sc.length cs) := HMd.out.mcell 2
    clear hm hk hal er HMr HSr HGc HBc
    go_wp2_with (first | (refine wpList_build' rfl 66 #[(0, .tmp 58)] rfl (.agg (RFL x1 0 0 (fun _ => 0) none 0 0 none 0 0).toArray) (fun w => by kernel_rfl) ?_) | (refine wpList_store_row rfl 66 (.tmp 9) (.tmp 59) rfl wc.heap.size (RFL x1 0 0 (fun _ => 0) none 0 0 none 0 0).toArray rfl rfl 66 _ (heap_alloc_new wc _) (by rw [RFL_size]; kernel_rfl) (by rw [RFL_size]; kernel_rfl) (RFL_all _ _ _ _ _ _ _ _ _ _) ?_; rw [World.setRow_alloc_new]))
    generalize wc.alloc (.cells (RFL x1 0 0 (fun _ => 0) none 0 0 none 0 0).toArray 66) = wd at *
    generalize wc.heap.size = gb at *
    have hgg : g < gb := by have := HBG.out; have := HGB.out; omega
    have HGG := am hgg
    clear hgg
    refine (nHead HMd.out HSd.out HSC.out EB.out).mono ?_
    rintro e we ⟨A7, c7, rfl, hx, hm, hk⟩
    have HMe := am hm
    have HSe := am (R_past HSd.out (Nat.lt_succ_self g) hk)
    have HGe := am (R_past HGd.out (Nat.lt_succ_self g) hk)
    have HXe := am (Kd.R_lower hx HBd.out)
    have HZe := am (KeepBut.at_ hk HZd.out (by have := HGG.out; omega))
    have HBe := am (Nat.le_trans HBd.out hk.1)
    clear hm hk hx d2 HMd HSd HGd HBd HZd
    have HMh := am (HMe.out.setRow HGG.out HGM.out (RFL x1 x y f A7 cols.length c7 none 0 0).toArray)
    have HSh := am (R_setRow HSe.out HZe.out (by decide) (RFL x1 x y f A7 cols.length c7 none 0 0).toArray)
    have HXh := am (R_setRow HXe.out HZe.out (by decide) (RFL x1 x y f A7 cols.length c7 none 0 0).toArray)
    have HGh := am (Kd.R_step HGe.out (fun k hk _ => setRow_other we gb k (RFL x1 x y f A7 cols.length c7 none 0 0).toArray (by have := HGB.out; omega)))
    have HBh : Aside0 (B ≤ (we.setRow gb (RFL x1 x y f A7 cols.length c7 none 0 0).toArray).heap.size) := am (by rw [setRow_size]; exact HBe.out)
    have HZh := am (setRow_heap we gb _ (RFL x1 x y f A7 cols.length c7 none 0 0).toArray _ _ HZe.out)
    go_wp2_with (refine wpList_store_seg rfl 64 (.tmp 64) (.tmp 63) rfl gb 1 (HC x y f A7 cols.length c7) rfl rfl 66 _ HZe.out (by rw [HC_size, RFL_size]; decide) (by rw [HC_size]; kernel_rfl) (HC_all _ _ _ _ _ _) (RFL x1 x y f A7 cols.length c7 none 0 0).toArray (RFL_seg _ _ _ _ _ _ _) ?_)
    generalize we.setRow gb (RFL x1 x y f A7 cols.length c7 none 0 0).toArray = wh at *
    clear HMe HSe HXe HGe HBe HZe
    refine (nBlob HMh.out EC.out).mono ?_
    rintro e wi ⟨A8, c8, rfl, hx, hm, hk⟩
    have HMi := am hm
    have HSi := am (R_past HSh.out (Nat.lt_succ_self g) hk)
    have HGi := am (R_past HGh.out (Nat.lt_succ_self g) hk)
    have HXi := am (R_past HXh.out HBG.out hk)
    have HYi := am (Kd.R_lower hx HBh.out)
    have HZi := am (KeepBut.at_ hk HZh.out (by have := HGG.out; omega))
    clear hm hk hx
    have c36 : wi.cell? ⟨gb, 36, none⟩ = some nilS := (blk_cell HZi.out 36).trans (RFL_36 _ _ _ _ _ _ _ _ _ _)
    have f36 := blk_frozen HZi.out 36
    have HMj := am (HMi.out.setCell HGG.out HGM.out 36 (.slice A8 dl.length c8))
    have HSj := am (Kd.R_set HSi.out HZi.out (by decide) 36 (.slice A8 dl.length c8))
    have HGj := am (Kd.R_far (p := ⟨gb, 36, none⟩) HGi.out (fun k hk => by show k ≠ gb; have := HGB.out; omega) (.slice A8 dl.length c8))
    have HXj := am (Kd.R_set HXi.out HZi.out (by decide) 36 (.slice A8 dl.length c8))
    have HYj := am (Kd.R_set HYi.out HZi.out (by decide) 36 (.slice A8 dl.length c8))
    have HZj : Aside0 ((wi.setCell ⟨gb, 36, none⟩ (.slice A8 dl.length c8)).heap[gb]? = some (.cells (RFL x1 x y f A7 cols.length c7 A8 dl.length c8).toArray 66 (0, 0))) := am (by rw [setCell_eq_setRow _ _ _ _ _ _ _ HZi.out]; exact (setRow_heap _ _ _ _ _ _ HZi.out).trans (by rw [RFL_set]))
    have HBj : Aside0 (g + 1 ≤ (wi.setCell ⟨gb, 36, none⟩ (.slice A8 dl.length c8)).heap.size) := am (HMj.out.lt)
    have c4 : (wi.setCell ⟨gb, 36, none⟩ (.slice A8 dl.length c8)).cell? ⟨mb, 4, none⟩ = some (.slice Ag l.length cg) := HMj.out.mcell 4
    have HGT := am (Kd.R_mono (ok' := fun _ => True) HGj.out (fun _ _ => trivial))
    have HNE := am (show ∀ k, B ≤ k → some k ≠ (Value.slice Ag l.length cg).ownBlock from fun k hk e => by have : k < B := HGj.out.1 k e.symm; omega)
    have HXB := am (Kd.R_lower (Kd.R_mono (ok' := fun k => B ≤ k) (Kd.R_bound HXj.out) (fun _ hk => hk.2.1)) HBG.out)
    have HYB := am (Kd.R_lower (Kd.R_mono (ok' := fun k => B ≤ k) (Kd.R_bound HYj.out) (fun _ hk => hk.2.1)) HBG.out)
    have HL5 := am (show l.length + 2 ≤ 1099511627779 by omega)
    go_wp2_with (first | (refine wpList_load_row rfl 66 (.tmp 9) rfl gb rfl 66 (RFL x1 x y f A7 cols.length c7 A8 dl.length c8).toArray (0, 0) _ HZj.out Tryz.underlying66 rfl (by rw [RFL_size]; kernel_rfl) ?_) | (refine wpList_build rfl 23 1 #[(0, .tmp 70)] rfl (.slice (some ⟨(wi.setCell ⟨gb, 36, none⟩ (.slice A8 dl.length c8)).heap.size, 0, none⟩) 1 1) ((wi.setCell ⟨gb, 36, none⟩ (.slice A8 dl.length c8)).alloc (.cells (RFL x1 x y f A7 cols.length c7 A8 dl.length c8).toArray 66)) (by kernel_rfl) ?_) | ((with_reducible refine gate_builtin (b := .append) (xs := #[.tmp 69, .tmp 71]) rfl ?_); at_builtin; generalize wi.setCell ⟨gb, 36, none⟩ (.slice A8 dl.length c8) = wj at *; refine Kd.R_append kRf (w0 := wj) (g + 1) rfl (.tmp 69) (.tmp 71) 23 66 (.agg (RFL 0 0 0 (fun _ => 0) none 0 0 none 0 0).toArray) 104 rfl Tryz.underlying23 (by kernel_rfl) (by kernel_rfl) (by decide) (by decide) (.slice Ag l.length cg) l ⟨x1, ⟨x, y, HL f, cols⟩, dl⟩ (RFL x1 x y f A7 cols.length c7 A8 dl.length c8) (fun _ => True) (fun k => B ≤ k) rfl rfl (kRf_M HXB.out HYB.out) (fun k hk => ⟨trivial, HNE.out k hk⟩) (fun _ _ => trivial) HGT.out (Below.refl _ _) HBj.out (by have := HL5.out; omega) ?_; intro vk wk ho hb2 hg2 _; obtain ⟨Ak, ck, ek⟩ := Kd.R_slice ho; obtain ⟨n9, hn9⟩ : ∃ n9, n9 = (l ++ [(⟨x1, ⟨x, y, HL f, cols⟩, dl⟩ : Rf)]).length := ⟨_, rfl⟩; rw [← hn9] at ek; subst ek; have HN9 := am hn9; have HGk := am ho; have HMk := am (HMj.out.grown HGT.out (by decide) hg2); have HSk := am (Kd.R_over HSj.out HGT.out (by decide) hg2); have c5 : wk.cell? ⟨mb, 4, none⟩ = some (.slice Ag l.length cg) := HMk.out.mcell 4; have f5 := HMk.out.mfree 4; clear ho hb2 hg2 hn9))
    have HMl : Aside0 (Nr w (wk.setCell ⟨mb, 4, none⟩ (.slice Ak n9 ck)) g mb p qc (MC a1 a2 (.slice As sc.length cs) a3 (.slice Ak n9 ck) nilS nilS)) := am (HMk.out.store 4 (.slice Ak n9 ck))
    have HSl := am (N_store HSk.out HMk.out (by decide) 4 (.slice Ak n9 ck))
    have HGl := am (N_store HGk.out HMk.out (by decide) 4 (.slice Ak n9 ck))
    generalize wk.setCell ⟨mb, 4, none⟩ (.slice Ak n9 ck) = wl at *
    obtain rfl := HN9.out
    go_roundw
    case rel => exact ⟨i + 1, _, qc, Ak, ck, by omega, by go_num, by rw [List.length_append, List.length_singleton]; omega, HMl, HSl, HGl, HST⟩
    case measure => simp [intOf]; omega
   ·obtain rfl : i = N5 := by omega
    have e := HQ.out
    rw [Nat.sub_self, grpsQ] at e
    have e1 := (Prod.mk.inj e).1
    have e2 := (Prod.mk.inj e).2
    rw [e2] at HMr
    rw [e1] at HMr HGr
    clear e e1 e2 HQ
    have c2 : wr.cell? ⟨mb, 2, none⟩ = some (.slice As sc.length cs) := HMr.out.mcell 2
    go_wp2_with fail
    refine (nRows HMr.out HSr.out HSC.out E7.out).mono ?_
    rintro e w1' ⟨Al, cl, rfl, hl7, hm, hk⟩
    have HM1 := am hm
    have HS1 := am (R_past HSr.out (Nat.lt_succ_self g) hk)
    have HG1 := am (R_past HGr.out (Nat.lt_succ_self g) hk)
    have HL1 := am hl7
    clear hm hk hl7 c2 er
    have c5 : w1'.cell? ⟨mb, 5, none⟩ = some nilS := HM1.out.mcell 5
    have f5 := HM1.out.mfree 5
    have HM2 : Aside0 (Nr w (w1'.setCell ⟨mb, 5, none⟩ (.slice Al ll.length cl)) g mb p q7 (MC a1 a2 (.slice As sc.length cs) a3 (.slice Ag gl.length cg) (.slice Al ll.length cl) nilS)) := am (HM1.out.store 5 (.slice Al ll.length cl))
    have HS2 := am (N_store HS1.out HM1.out (by decide) 5 (.slice Al ll.length cl))
    have HG2 := am (N_store HG1.out HM1.out (by decide) 5 (.slice Al ll.length cl))
    have HL2 := am (N_store HL1.out HM1.out (by decide) 5 (.slice Al ll.length cl))
    go_wp2_with fail
    generalize w1'.setCell ⟨mb, 5, none⟩ (.slice Al ll.length cl) = w2' at *
    refine (nNumber HM2.out E8.out).mono ?_
    rintro e w3' ⟨rfl, hm, hk⟩
    have HM3 := am hm
    have HS3 := am (R_past HS2.out (Nat.lt_succ_self g) hk)
    have HG3 := am (R_past HG2.out (Nat.lt_succ_self g) hk)
    have HL3 := am (R_past HL2.out (Nat.lt_succ_self g) hk)
    clear hm hk c5 f5 HM1 HS1 HG1 HL1 HM2 HS2 HG2 HL2
    go_wp2_with fail
    go_loopw [10] (fun v10 w' => ∃ (i : Nat) (l : List En) (q' : St) (Ae : Option Addr) (ce : Nat), i ≤ N8 ∧ v10 = .int .i64 i ∧ l.length ≤ i ∧ Aside0 (Nr w w' g mb p q' (MC a1 a2 (.slice As sc.length cs) a3 (.slice Ag gl.length cg) (.slice Al ll.length cl) (.slice Ae l.length ce))) ∧ Aside0 (Kd.R k123 123 w' (g + 1) (fun _ => True) (.slice As sc.length cs) sc) ∧ Aside0 (Kd.R kRf 66 w' (g + 1) (fun _ => True) (.slice Ag gl.length cg) gl) ∧ Aside0 (Kd.R (Kd.slice 68 k68) 89 w' (g + 1) (fun _ => True) (.slice Al ll.length cl) ll) ∧ Aside0 (Kd.R kEn 81 w' (g + 1) (fun _ => True) (.slice Ae l.length ce) l) ∧ Aside0 (entsQ p (N8 - i) l q' = (el, q9))) (fun v _ => N8 - (intOf v).toNat)
    case atStart => exact ⟨0, [], q8, none, 0, Nat.zero_le _, rfl, Nat.le_refl _, HM3, HS3, HG3, HL3, ⟨Kd.R_nil _ _ _ _ _⟩, E9⟩
    case round =>
     obtain ⟨i, l, q', Ae, ce, hi, rfl, hl, HMr, HSr, HGr, HLr, HEr, HQ⟩ := hrel
     have er := HMr.out.err
     by_cases hz : q'.2.1 = 0
     ·rw [hz] at er
      by_cases hlt : i < N8
      ·have hst : entsQ p (N8 - (i + 1)) (l ++ [(entQ p q').1]) (entQ p q').2 = (el, q9) := by rw [← HQ.out, show N8 - i = (N8 - (i + 1)) + 1 by omega, entsQ, if_pos hz]
       have hi1 := entQ_len HMr.out.inn
       obtain ⟨x, qc, ee⟩ : ∃ a b, entQ p q' = (a, b) := ⟨_, _, rfl⟩
       rw [ee] at hi1
       obtain ⟨x, nn, y⟩ := x
       dsimp only at hi1
       obtain ⟨f, rfl⟩ : ∃ f, x = HL f := ⟨_, range_fn x hi1.1⟩
       obtain ⟨h, rfl⟩ : ∃ h, y = HL h := ⟨_, range_fn y hi1.2⟩
       simp only [ee] at hst
       have EE := am ee
       have HST := am hst
       have HL8 := am (show l.length + 2 ≤ 1099511627779 by omega)
       clear ee hst hi1 hz HQ
       have hbd : Below wr.heap.size wr wr.drew := below_drew (Below.refl _ _)
       have HMd : Aside0 (Nr w wr.drew g mb p q' _) := am (HMr.out.below hbd)
       have HSd : Aside0 (Kd.R k123 123 wr.drew (g + 1) _ _ sc) := am (Kd.R_below HSr.out hbd)
       have HGd : Aside0 (Kd.R kRf 66 wr.drew (g + 1) _ _ gl) := am (Kd.R_below HGr.out hbd)
       have HLd : Aside0 (Kd.R (Kd.slice 68 k68) 89 wr.drew (g + 1) _ _ ll) := am (Kd.R_below HLr.out hbd)
       have HEd : Aside0 (Kd.R kEn 81 wr.drew (g + 1) _ _ l) := am (Kd.R_below HEr.out hbd)
       clear hbd
       go_wp2_with fail
       refine start_ (n := 8) (S := fun w' => w'.cell? ⟨mb, 6, none⟩ = some (.slice Ae l.length ce)) (ds := [7]) #[false, false, false, false, false, false, false, false] (by kernel_rfl) rfl rfl (HMd.out.mcell 6) (fun hHeld => ?_)
       generalize wr.drew = wd at *
       refine pu 0 (some 93) ?_ ?_ ?_ ?_ ?_
       rotate_left 2
       ·intro w'
        go_simp
        with_reducible rfl
       ·simp only [Act.put, sA1, sA2, sA3, i64_w, i32_w]
        rfl
       refine pu 2 (some 95) ?_ ?_ ?_ ?_ ?_
       rotate_left 2
       ·intro w'
        go_simp
        with_reducible rfl
       ·simp only [Act.put, sA1, sA2, sA3, i64_w, i32_w]
        rfl
       refine tk 1 (some 94) ?_ ?_ hHeld ?_ ?_ ?_
       rotate_left 2
       ·intro w' s0
        go_simp
        with_reducible rfl
       ·simp only [Act.put, sA1, sA2, sA3, i64_w, i32_w]
        rfl
       refine on (i := 3) (N := some 96) rfl rfl (by kernel_rfl) (by decide) (fun K hK => ?_)
       refine goes_ Tryz.func62 (by kernel_rfl) rfl #[.pointer (some ⟨g, 0, none⟩)] (by rfl) rfl rfl (by simp only [List.map_toArray, List.map_cons, List.map_nil]; rfl) ?_
       with_reducible refine (nEnt HMd.out EE.out).mono ?_
       rintro e we ⟨rfl, hm, hk⟩
       refine ⟨_, rfl, ?_⟩
       have HMe := am hm
       have HSe := am (R_past HSd.out (Nat.lt_succ_self g) hk)
       have HGe := am (R_past HGd.out (Nat.lt_succ_self g) hk)
       have HLe := am (R_past HLd.out (Nat.lt_succ_self g) hk)
       have HEe := am (R_past HEd.out (Nat.lt_succ_self g) hk)
       clear hm hk
       refine hK.out _ _ (HMe.out.mcell 6) (fun hHeld => ?_)
       clear hK K
       refine norm_ (a' := ?_) ?_ ?_
       rotate_left
       ·show Act.put _ (some 96) _ = _
        simp only [Act.put, sA1, sA2, sA3, i64_w, i32_w]
        rfl
       refine on (i := 4) (N := some 97) rfl rfl (by kernel_rfl) (by decide) (fun K hK => ?_)
       refine value_ (w1 := ?_) (v := ?_) (by rfl) rfl ?_ ?_
       rotate_left 2
       ·show _ = Result.ok (Next.value (Value.slice (some ⟨we.heap.size, 0, none⟩) 1 1)) (we.alloc (.cells (enCells (⟨HL f, nn, HL h⟩ : En)).toArray 81))
        kernel_rfl
       have HBA := am (show Below we.heap.size we (we.alloc (.cells (enCells (⟨HL f, nn, HL h⟩ : En)).toArray 81)) from below_alloc (Below.refl _ _) _)
       refine hK.out _ _ (pw_cell_below HBA.out (HMe.out.mcell 6)) (fun hHeld => ?_)
       clear hK K
       refine norm_ (a' := ?_) ?_ ?_
       rotate_left
       ·show Act.put _ (some 97) _ = _
        simp only [Act.put, sA1, sA2, sA3, i64_w, i32_w]
        rfl
       refine on (i := 5) (N := some 98) rfl rfl (by kernel_rfl) (by decide) (fun K hK => ?_)
       refine Kd.R_append_step kEn (w0 := we) (g + 1) (by rfl) (.tmp 94) (.tmp 97) 25 81 (.agg Tryz.zeroCells81) 72 rfl Tryz.underlying25 (by kernel_rfl) (by kernel_rfl) (by decide) (by decide) (.slice Ae l.length ce) l (⟨HL f, nn, HL h⟩ : En) (enCells (⟨HL f, nn, HL h⟩ : En)) (fun _ => True) (fun _ => False) rfl rfl (kEn_M (HL_len f) (HL_len h)) (fun _ h => h.elim) (fun _ _ => trivial) HEe.out (Below.refl _ _) HMe.out.lt (by have := HL8.out; omega) ?_
       intro vf wf ho _ hg2 _
       obtain ⟨Af, cf, ef⟩ := Kd.R_slice ho
       obtain ⟨n9, hn9⟩ : ∃ n9, n9 = (l ++ [(⟨HL f, nn, HL h⟩ : En)]).length := ⟨_, rfl⟩
       rw [← hn9] at ef
       subst ef
       have HN9 := am hn9
       have HEf := am ho
       have HMf := am (HMe.out.grown HEe.out (by decide) hg2)
       have HSf := am (Kd.R_over HSe.out HEe.out (by decide) hg2)
       have HGf := am (Kd.R_over HGe.out HEe.out (by decide) hg2)
       have HLf := am (Kd.R_over HLe.out HEe.out (by decide) hg2)
       have c6 : wf.cell? ⟨mb, 6, none⟩ = some (.slice Ae l.length ce) := HMf.out.mcell 6
       have f6 := HMf.out.mfree 6
       clear ho hg2 hn9
       refine hK.out _ _ (HMf.out.mcell 6) (fun hHeld => ?_)
       clear hK K
       refine norm_ (a' := ?_) ?_ ?_
       rotate_left
       ·show Act.put _ (some 98) _ = _
        simp only [Act.put, sA1, sA2, sA3, i64_w, i32_w]
        rfl
       refine pu 6 (some 99) ?_ ?_ ?_ ?_ ?_
       rotate_left 2
       ·intro w'
        go_simp
        with_reducible rfl
       ·simp only [Act.put, sA1, sA2, sA3, i64_w, i32_w]
        rfl
       refine last_ (i := 7) (N := none) #[true, true, true, true, true, true, true, true] rfl rfl (by kernel_rfl) (by decide) (fun K hK => ?_)
       refine skip_ (w1 := ?_) (by rfl) rfl ?_ ?_
       rotate_left
       ·go_simp
        rfl
       refine hK.out _ _ ?_
       clear hK K
       refine done_ (by kernel_rfl) ?_
       have HMl : Aside0 (Nr w (wf.setCell ⟨mb, 6, none⟩ (.slice Af n9 cf)) g mb p qc (MC a1 a2 (.slice As sc.length cs) a3 (.slice Ag gl.length cg) (.slice Al ll.length cl) (.slice Af n9 cf))) := am (HMf.out.store 6 (.slice Af n9 cf))
       have HSl := am (N_store HSf.out HMf.out (by decide) 6 (.slice Af n9 cf))
       have HGl := am (N_store HGf.out HMf.out (by decide) 6 (.slice Af n9 cf))
       have HLl := am (N_store HLf.out HMf.out (by decide) 6 (.slice Af n9 cf))
       have HEl := am (N_store HEf.out HMf.out (by decide) 6 (.slice Af n9 cf))
       generalize wf.setCell ⟨mb, 6, none⟩ (.slice Af n9 cf) = wl at *
       obtain rfl := HN9.out
       go_wp2
       go_roundw
       case rel => exact ⟨i + 1, _, qc, Af, cf, by omega, by go_num, by rw [List.length_append, List.length_singleton]; omega, HMl, HSl, HGl, HLl, HEl, HST⟩
       case measure => simp [intOf]; omega
      ·obtain rfl : i = N8 := by omega
       have e := HQ.out
       rw [Nat.sub_self, entsQ] at e
       have e1 := (Prod.mk.inj e).1
       have e2 := (Prod.mk.inj e).2
       rw [e2] at HMr
       rw [e1] at HMr HEr
       clear e e1 e2 HQ
       go_wp2_with fail
       refine (nEnd HMr.out).mono ?_
       rintro e wE ⟨⟨pE, rfl⟩, hb⟩
       have HME := am (HMr.out.below hb)
       have HSE := am (Kd.R_below HSr.out hb)
       have HGE := am (Kd.R_below HGr.out hb)
       have HLE := am (Kd.R_below HLr.out hb)
       have HEE := am (Kd.R_below HEr.out hb)
       clear hb
       by_cases hE : endQ p q9 = 0
       ·have hne : (endQ p q9 != 0) = false := by simpa using hE
        have HQE := am hE
        have HMN := am (show MnC wE (⟨a1, a2, sc, a3, gl, ll, el⟩ : Mn) As cs Ag cg Al cl Ae ce from mnc_of (m := (⟨a1, a2, sc, a3, gl, ll, el⟩ : Mn)) HSE.out HGE.out HLE.out HEE.out (fun _ _ _ => rfl))
        have hck := refCheck_calls (⟨a1, a2, sc, a3, gl, ll, el⟩ : Mn) As cs Ag cg Al cl Ae ce wE HMN.out (by have := HSC.out; show sc.length < _; omega)
        obtain ⟨ck, hckk⟩ : ∃ ck, ck = checkP (⟨a1, a2, sc, a3, gl, ll, el⟩ : Mn) := ⟨_, rfl⟩
        rw [← hckk] at HGOOD hck
        have HCK := am hck
        clear hE hck hckk
        go_wp2_with (refine gate_guard (by rfl) ?_; dsimp only; refine wpList_load_row rfl 27 (.tmp 6) rfl mb rfl 27 (MC a1 a2 (.slice As sc.length cs) a3 (.slice Ag gl.length cg) (.slice Al ll.length cl) (.slice Ae el.length ce)) (0, 0) _ HME.out.mbk Tryz.underlying27 rfl (by kernel_rfl) ?_)
        refine HCK.out.mono ?_
        rintro e wF ⟨rfl, hb⟩
        have HMF := am (HME.out.below hb)
        have HSF := am (Kd.R_below HSE.out hb)
        have HGF := am (Kd.R_below HGE.out hb)
        have HLF := am (Kd.R_below HLE.out hb)
        have HEF := am (Kd.R_below HEE.out hb)
        clear hb HCK HMN
        by_cases hC : ck = 0
        ·have hcb : (ck != 0) = false := by simpa using hC
         have HRR : Aside0 (r = ((⟨a1, a2, sc, a3, gl, ll, el⟩ : Mn), 0)) := am (by rw [HRS.out, if_pos (HGOOD.out.symm ▸ ⟨HQE.out, hC⟩)])
         clear hC
         have HXG := am (setRow_heap wF w.heap.size _ (MC a1 a2 (.slice As sc.length cs) a3 (.slice Ag gl.length cg) (.slice Al ll.length cl) (.slice Ae el.length ce)) _ _ HMF.out.rbk)
         go_wp2_with (first | (refine wpList_load_row rfl 27 (.tmp 6) rfl mb rfl 27 (MC a1 a2 (.slice As sc.length cs) a3 (.slice Ag gl.length cg) (.slice Al ll.length cl) (.slice Ae el.length ce)) (0, 0) _ HMF.out.mbk Tryz.underlying27 rfl (by kernel_rfl) ?_) | (refine wpList_store_row rfl 27 (.tmp 2) (.tmp 113) rfl w.heap.size (MC a1 a2 (.slice As sc.length cs) a3 (.slice Ag gl.length cg) (.slice Al ll.length cl) (.slice Ae el.length ce)) rfl rfl 27 _ HMF.out.rbk (by kernel_rfl) rfl (by kernel_rfl) ?_))
         refine bodyPost_ret (v := .tuple #[.agg (MC a1 a2 (.slice As sc.length cs) a3 (.slice Ag gl.length cg) (.slice Al ll.length cl) (.slice Ae el.length ce)), .int .i64 0]) (results_cr_tmp (p := 2) (u := 3) rfl _ _ w.heap.size 27 (MC a1 a2 (.slice As sc.length cs) a3 (.slice Ag gl.length cg) (.slice Al ll.length cl) (.slice Ae el.length ce)) (0, 0) _ rfl HXG.out Tryz.underlying27 rfl (by kernel_rfl)) rfl ?_
         rw [HRR.out]
         exact ⟨⟨As, cs, Ag, cg, Al, cl, Ae, ce, rfl, mnc_of (m := (⟨a1, a2, sc, a3, gl, ll, el⟩ : Mn)) HSF.out HGF.out HLF.out HEF.out (fun k hk _ => setRow_other wF w.heap.size k _ (by have := HMF.out.gw; omega))⟩, m_belowRow' HMF.out.bel w.heap.size (Nat.le_refl _) _⟩
        ·have hcb : (ck != 0) = true := by simpa using hC
         have HRR : Aside0 (r = (zMn, 4)) := am (by rw [HRS.out, if_neg (fun h => hC (HGOOD.out ▸ h).2)])
         clear hC
         go_wp2_with (refine wpList_store_row rfl 27 (.tmp 2) (.tmp 112) rfl w.heap.size (MC 0 0 nilS 0 nilS nilS nilS) rfl rfl 27 (MC 0 0 nilS 0 nilS nilS nilS) HMF.out.rbk (by kernel_rfl) rfl (by kernel_rfl) ?_)
         rw [setRow_self wF w.heap.size _ _ _ HMF.out.rbk]
         refine bodyPost_ret (v := .tuple #[.agg (MC 0 0 nilS 0 nilS nilS nilS), .int .i64 4]) (results_cr_tmp (p := 2) (u := 3) rfl _ _ w.heap.size 27 (MC 0 0 nilS 0 nilS nilS nilS) (0, 0) _ rfl HMF.out.rbk Tryz.underlying27 rfl (by kernel_rfl)) rfl ?_
         rw [HRR.out]
         exact ⟨⟨none, 0, none, 0, none, 0, none, 0, rfl, MnC_zero _⟩, HMF.out.bel⟩
       ·have hne : (endQ p q9 != 0) = true := by simpa using hE
        have HRR : Aside0 (r = (zMn, 4)) := am (by rw [HRS.out, if_neg (fun h => hE (HGOOD.out ▸ h).1)])
        clear hE
        generalize endQ p q9 = eE at *
        go_wp2_with (refine wpList_store_row rfl 27 (.tmp 2) (.tmp 112) rfl w.heap.size (MC 0 0 nilS 0 nilS nilS nilS) rfl rfl 27 (MC 0 0 nilS 0 nilS nilS nilS) HME.out.rbk (by kernel_rfl) rfl (by kernel_rfl) ?_)
        rw [setRow_self wE w.heap.size _ _ _ HME.out.rbk]
        refine bodyPost_ret (v := .tuple #[.agg (MC 0 0 nilS 0 nilS nilS nilS), .int .i64 4]) (results_cr_tmp (p := 2) (u := 3) rfl _ _ w.heap.size 27 (MC 0 0 nilS 0 nilS nilS nilS) (0, 0) _ rfl HME.out.rbk Tryz.underlying27 rfl (by kernel_rfl)) rfl ?_
        rw [HRR.out]
        exact ⟨⟨none, 0, none, 0, none, 0, none, 0, rfl, MnC_zero _⟩, HME.out.bel⟩
     ·have hb1 : (q'.2.1 == 0) = false := beq_eq_false_iff_ne.2 hz
      have e := HQ.out
      rw [entsQ_err hz] at e
      have e1 := (Prod.mk.inj e).1
      have e2 := (Prod.mk.inj e).2
      rw [e2] at HMr hz er hb1
      rw [e1] at HMr HEr
      have HNE := am (endQ_err (s0 := p) hz)
      clear e e1 e2 HQ hz
      by_cases hlt : i < N8
      all_goals
       go_wp2_with fail
       refine (nEnd HMr.out).mono ?_
       rintro e wE ⟨⟨pE, rfl⟩, hb⟩
       have HME := am (HMr.out.below hb)
       have hne : (endQ p q9 != 0) = true := by simpa using HNE.out
       have HRR : Aside0 (r = (zMn, 4)) := am (by rw [HRS.out, if_neg (fun h => HNE.out (HGOOD.out ▸ h).1)])
       clear hb
       generalize endQ p q9 = eE at *
       go_wp2_with (refine wpList_store_row rfl 27 (.tmp 2) (.tmp 112) rfl w.heap.size (MC 0 0 nilS 0 nilS nilS nilS) rfl rfl 27 (MC 0 0 nilS 0 nilS nilS nilS) HME.out.rbk (by kernel_rfl) rfl (by kernel_rfl) ?_)
       rw [setRow_self wE w.heap.size _ _ _ HME.out.rbk]
       refine bodyPost_ret (v := .tuple #[.agg (MC 0 0 nilS 0 nilS nilS nilS), .int .i64 4]) (results_cr_tmp (p := 2) (u := 3) rfl _ _ w.heap.size 27 (MC 0 0 nilS 0 nilS nilS nilS) (0, 0) _ rfl HME.out.rbk Tryz.underlying27 rfl (by kernel_rfl)) rfl ?_
       rw [HRR.out]
       exact ⟨⟨none, 0, none, 0, none, 0, none, 0, rfl, MnC_zero _⟩, HME.out.bel⟩
  ·have hb1 : (q'.2.1 == 0) = false := beq_eq_false_iff_ne.2 hz
   have e := HQ.out
   rw [grpsQ_err hz] at e
   have e1 := (Prod.mk.inj e).1
   have e2 := (Prod.mk.inj e).2
   rw [e2] at HMr hz er hb1
   rw [e1] at HMr HGr
   have HZ6 := am hz
   clear e e1 e2 HQ hz
   by_cases hlt : i < N5
   all_goals
    have z1 := takeRowsQ_err (s0 := p) (s := sc) HZ6.out
    rw [E7.out] at z1
    have z2 := (Prod.mk.inj z1).2
    have z3 := numQ_err (s0 := p) (lim := 1099511627776) (by decide) HZ6.out
    rw [← z2, E8.out] at z3
    have z4 : (N8 : Int) = 0 := (Prod.mk.inj z3).1
    have z5 := (Prod.mk.inj z3).2
    have z6 : N8 = 0 := by omega
    subst z6
    have z7 := E9.out
    rw [entsQ] at z7
    have z9 := (Prod.mk.inj z7).2
    have HNE := am (endQ_err (s0 := p) (q := q9) (by rw [← z9, z5, z2]; exact HZ6.out))
    have HQ9 := am z9
    clear z1 z2 z3 z4 z5 z7 z9
    have c2 : wr.cell? ⟨mb, 2, none⟩ = some (.slice As sc.length cs) := HMr.out.mcell 2
    go_wp2_with fail
    refine (nRows HMr.out HSr.out HSC.out E7.out).mono ?_
    rintro e w1' ⟨Al, cl, rfl, hl7, hm, hk⟩
    have HM1 := am hm
    have HS1 := am (R_past HSr.out (Nat.lt_succ_self g) hk)
    have HG1 := am (R_past HGr.out (Nat.lt_succ_self g) hk)
    have HL1 := am hl7
    clear hm hk hl7 c2 er
    have c5 : w1'.cell? ⟨mb, 5, none⟩ = some nilS := HM1.out.mcell 5
    have f5 := HM1.out.mfree 5
    have HM2 : Aside0 (Nr w (w1'.setCell ⟨mb, 5, none⟩ (.slice Al ll.length cl)) g mb p q7 (MC a1 a2 (.slice As sc.length cs) a3 (.slice Ag gl.length cg) (.slice Al ll.length cl) nilS)) := am (HM1.out.store 5 (.slice Al ll.length cl))
    have HS2 := am (N_store HS1.out HM1.out (by decide) 5 (.slice Al ll.length cl))
    have HG2 := am (N_store HG1.out HM1.out (by decide) 5 (.slice Al ll.length cl))
    have HL2 := am (N_store HL1.out HM1.out (by decide) 5 (.slice Al ll.length cl))
    go_wp2_with fail
    generalize w1'.setCell ⟨mb, 5, none⟩ (.slice Al ll.length cl) = w2' at *
    refine (nNumber HM2.out E8.out).mono ?_
    rintro e w3' ⟨rfl, hm, hk⟩
    have HM3 := am hm
    have HS3 := am (R_past HS2.out (Nat.lt_succ_self g) hk)
    have HG3 := am (R_past HG2.out (Nat.lt_succ_self g) hk)
    have HL3 := am (R_past HL2.out (Nat.lt_succ_self g) hk)
    clear hm hk c5 f5 HM1 HS1 HG1 HL1 HM2 HS2 HG2 HL2
    go_wp2_with fail
    have HM4 := HM3
    rw [HQ9.out] at HM4
    have er := HM4.out.err
    refine wp_loop_rounds 1 ?_
    rw [rounds_succ]
    go_wp2_with fail
    refine (nEnd HM4.out).mono ?_
    rintro e wE ⟨⟨pE, rfl⟩, hb⟩
    have HME := am (HM4.out.below hb)
    have hne : (endQ p q9 != 0) = true := by simpa using HNE.out
    have HRR : Aside0 (r = (zMn, 4)) := am (by rw [HRS.out, if_neg (fun h => HNE.out (HGOOD.out ▸ h).1)])
    clear hb
    generalize endQ p q9 = eE at *
    go_wp2_with (refine wpList_store_row rfl 27 (.tmp 2) (.tmp 112) rfl w.heap.size (MC 0 0 nilS 0 nilS nilS nilS) rfl rfl 27 (MC 0 0 nilS 0 nilS nilS nilS) HME.out.rbk (by kernel_rfl) rfl (by kernel_rfl) ?_)
    rw [setRow_self wE w.heap.size _ _ _ HME.out.rbk]
    refine bodyPost_ret (v := .tuple #[.agg (MC 0 0 nilS 0 nilS nilS nilS), .int .i64 4]) (results_cr_tmp (p := 2) (u := 3) rfl _ _ w.heap.size 27 (MC 0 0 nilS 0 nilS nilS nilS) (0, 0) _ rfl HME.out.rbk Tryz.underlying27 rfl (by kernel_rfl)) rfl ?_
    rw [HRR.out]
    exact ⟨⟨none, 0, none, 0, none, 0, none, 0, rfl, MnC_zero _⟩, HME.out.bel⟩
end
end Go.Proofs.YtjmhiklmlgbifaaGreatDoor.PMan

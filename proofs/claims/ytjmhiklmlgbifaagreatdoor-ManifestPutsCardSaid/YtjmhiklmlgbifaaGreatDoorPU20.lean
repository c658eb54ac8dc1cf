/- Texts of this proof, put into one, without what it does not use: MrH, RfC, ManL, NamA, PManx17. -/
import Derived.Test.YtjmhiklmlgbifaaGreatDoorPU18
import Derived.Test.YtjmhiklmlgbifaaGreatDoorPU19
import Derived.Test.YtjmhiklmlgbifaaGreatDoorPU7
import Derived.Test.YtjmhiklmlgbifaaGreatDoorPU16
import Derived.Outline
import Derived.Shelf.Strconv.Itoa3
import Derived.Lib.AppendIntMem
import Derived.Lib.LaidTab
import Derived.Lib.ItoaLen
import Derived.Test.YtjmhiklmlgbifaaGreatDoorPU3
section
namespace Go.Proofs.YtjmhiklmlgbifaaGreatDoor.PMan
open Go.RowKit Go.Proofs.YtjmhiklmlgbifaaGreatDoorW.PrintWords Go.Proofs.YtjmhiklmlgbifaaGreatDoorW.PrintLast Go.Proofs.YtjmhiklmlgbifaaGreatDoorW.PrintMore
set_option linter.unusedVariables false
set_option linter.unusedSimpArgs false
theorem refBlobP_calls (A0 : Option Addr) (c0 : Nat) (l : List Int) (w : World) (hr0 : Kd.C (Kd.int .u8) w A0 l.length l) (hc0 : l.length ≤ c0) (hl : l.length < 1000000000000) :
    Calls Tryz.prog 39 #[.slice A0 l.length c0] w fun e w' => ∃ v : Value, e = .returned v ∧ Kd.R (Kd.int .u8) 5 w' w.heap.size (fun _ => True) v (blobP l) ∧ Below w.heap.size w w' := refBlob_calls A0 c0 l w hr0 hc0 hl
set_option maxHeartbeats 8000000 in
set_option maxRecDepth 100000 in
theorem refPutM_calls (k : Nat) (m : Mn) (As : Option Addr) (cs : Nat) (Ag : Option Addr) (cg : Nat) (Al : Option Addr) (cl : Nat) (Ae : Option Addr) (ce : Nat) (w : World) (t : List Int) (hm : MnC w m As cs Ag cg Al cl Ae ce) (hok : MnOk m) (hls : m.schema.length < 1000000000) (hl : (bodyP m).length < 1000000000) (hf : estreatref04_Put.f k (bodyP m) = some t) :
    Calls Tryz.prog 11 #[.agg (mnCells m As cs Ag cg Al cl Ae ce)] w fun e w' => ∃ v, e = .returned (.tuple #[v, .int .i64 (checkP m)]) ∧ Kd.R (Kd.int .u8) 5 w' w.heap.size (fun _ => True) v (if checkP m = 0 then t else []) ∧ Below w.heap.size w w' := by
  have HM := Aside0.mk hm
  have HOK := Aside0.mk hok
  have HF := Aside0.mk hf
  have hbl : m.loose.length ≤ 9223372036854775807 := hm.l.2.1
  have hbe : m.entries.length ≤ 9223372036854775807 := hm.e.2.1
  have hbg : m.groups.length ≤ 9223372036854775807 := hm.g.2.1
  clear hm hok hf
  unfold mnCells
  obtain ⟨rc, hrc⟩ : ∃ rc : Int, rc = checkP m := ⟨_, rfl⟩
  rw [← hrc]
  have HRC := Aside0.mk hrc
  clear hrc
  obtain ⟨rt, hrt⟩ : ∃ rt : List Int, rt = if rc = 0 then t else [] := ⟨_, rfl⟩
  rw [← hrt]
  have HRT := Aside0.mk hrt
  clear hrt
  go_enter Tryz.func11, Tryz.ntmps11
  go_wp2_with fail
  have hx0 := heap_alloc_new w (.cells #[.int .i64 m.gen, .int .i64 m.next, .slice As m.schema.length cs, .int .i64 m.most, .slice Ag m.groups.length cg, .slice Al m.loose.length cl, .slice Ae m.entries.length ce] 27)
  have hb0 : Below w.heap.size w (w.alloc (.cells #[.int .i64 m.gen, .int .i64 m.next, .slice As m.schema.length cs, .int .i64 m.most, .slice Ag m.groups.length cg, .slice Al m.loose.length cl, .slice Ae m.entries.length ce] 27)) := below_alloc (Below.refl _ _) _
  generalize w.alloc (.cells #[.int .i64 m.gen, .int .i64 m.next, .slice As m.schema.length cs, .int .i64 m.most, .slice Ag m.groups.length cg, .slice Al m.loose.length cl, .slice Ae m.entries.length ce] 27) = W0 at *
  refine (refCheck_calls m As cs Ag cg Al cl Ae ce W0 (HM.out.below hb0) hls).mono ?_
  rw [← HRC.out]
  rintro ev w1 ⟨rfl, hb1⟩
  have hbw : Below w.heap.size w w1.drew := below_drew (below_call hb0 hb1)
  have HX1 : Aside0 (w1.drew.heap[w.heap.size]? = some (.cells #[.int .i64 m.gen, .int .i64 m.next, .slice As m.schema.length cs, .int .i64 m.most, .slice Ag m.groups.length cg, .slice Al m.loose.length cl, .slice Ae m.entries.length ce] 27 (0, 0))) := Aside0.mk ((hb1.block _ (blk_lt hx0)).trans hx0)
  have HBw1 := Aside0.mk (below_call hb0 hb1)
  clear hb1 hb0 hx0 W0
  by_cases z : ¬ rc = 0
  · have z' : (rc != 0) = true := by simpa using z
    clear hbw
    have HZ := Aside0.mk z
    clear z
    go_wp2
    go_ret2
    have e2 := HRT.out
    rw [if_neg HZ.out] at e2
    subst e2
    exact ⟨_, rfl, Kd.R_nil _ _ _ _ _, HBw1.out⟩
  have z := Classical.not_not.1 z
  subst z
  have e2 := HRT.out
  rw [if_pos rfl] at e2
  subst e2
  clear HRT
  have hR := right_of HRC.out.symm
  have HR := Aside0.mk hR
  have HG0 := Aside0.mk hR.gen
  have HG1 := Aside0.mk hR.next
  have HG3 := Aside0.mk hR.most
  have hgn := hR.gn
  have HBW := Aside0.mk hbw
  have HMC := Aside0.mk (HM.out.below hbw)
  clear hbw HBw1 hR
  have hv0 := varP_len m.gen
  have hv1 := varP_len m.next
  have hv3 := varP_len m.most
  obtain ⟨T, hT⟩ : ∃ T, T = bodyP m := ⟨_, rfl⟩
  rw [← hT] at hl
  have HT := Aside0.mk hT
  obtain ⟨yb, hyb⟩ : ∃ y, y = varP m.gen ++ varP m.next := ⟨_, rfl⟩
  obtain ⟨yc, hyc⟩ : ∃ y, y = yb ++ varP m.most := ⟨_, rfl⟩
  obtain ⟨yd, hyd⟩ : ∃ y, y = yc ++ schemaF m.schema := ⟨_, rfl⟩
  obtain ⟨ye, hye⟩ : ∃ y, y = yd ++ varP m.groups.length := ⟨_, rfl⟩
  have hT2 : ye ++ (groupsF (m.groups.drop 0) ++ tailF m) = T := by rw [hT, bodyP, hye, hyd, hyc, hyb, List.drop_zero]; simp only [List.append_assoc]
  have HT2 := Aside0.mk hT2
  have hyel : ye.length < 1000000000 := by have := congrArg List.length hT2; rw [List.length_append] at this; omega
  have hydl : yd.length + (varP (m.groups.length : Int)).length < 1000000000 := by have := congrArg List.length hye; rw [List.length_append] at this; omega
  have hycl : yc.length + (schemaF m.schema).length < 1000000000 := by have := congrArg List.length hyd; rw [List.length_append] at this; omega
  have hybl : yb.length ≤ 20 := by rw [hyb, List.length_append]; omega
  have HYb := Aside0.mk hyb
  have HYc := Aside0.mk hyc
  have HYd := Aside0.mk hyd
  have HYe := Aside0.mk hye
  clear hT hT2 hyb hyc hyd hye
  have q0 : w1.drew.cell? ⟨w.heap.size, 0, none⟩ = some (.int .i64 m.gen) := blk_cell HX1.out 0
  have q1 : w1.drew.cell? ⟨w.heap.size, 1, none⟩ = some (.int .i64 m.next) := blk_cell HX1.out 1
  have Q2 := Aside0.mk (show w1.drew.cell? ⟨w.heap.size, 2, none⟩ = some (.slice As m.schema.length cs) from blk_cell HX1.out 2)
  have Q3 := Aside0.mk (show w1.drew.cell? ⟨w.heap.size, 3, none⟩ = some (.int .i64 m.most) from blk_cell HX1.out 3)
  have Q4 := Aside0.mk (show w1.drew.cell? ⟨w.heap.size, 4, none⟩ = some (.slice Ag m.groups.length cg) from blk_cell HX1.out 4)
  have Q5 := Aside0.mk (show w1.drew.cell? ⟨w.heap.size, 5, none⟩ = some (.slice Al m.loose.length cl) from blk_cell HX1.out 5)
  have Q6 := Aside0.mk (show w1.drew.cell? ⟨w.heap.size, 6, none⟩ = some (.slice Ae m.entries.length ce) from blk_cell HX1.out 6)
  go_wp2_with fail
  refine start_ (n := 10) (S := fun w' => w'.cell? ⟨w.heap.size, 0, none⟩ = some (.int .i64 m.gen) ∧ w'.cell? ⟨w.heap.size, 1, none⟩ = some (.int .i64 m.next)) (ds := []) #[false, false, false, false, false, false, false, false, false, false] (by kernel_rfl) rfl rfl ⟨q0, q1⟩ (fun hHeld => ?_)
  generalize w1.drew = W2 at *
  refine pure_ (i := 0) (N := some 13) (v := ?_) (a' := ?_) #[true, false, false, false, false, false, false, false, false, false] rfl rfl (by kernel_rfl) (fun _ _ _ h => h) (Or.inl ⟨by rfl, ?_⟩) ?_ ?_
  rotate_left
  · intro w'
    go_simp
    with_reducible rfl
  rotate_left
  · simp only [Act.put, List.setIfInBounds_toArray, List.set_cons_zero, List.set_cons_succ, i64_w, i32_w]
    rfl
  refine pure_ (i := 4) (N := some 17) (v := ?_) (a' := ?_) #[true, false, false, false, true, false, false, false, false, false] rfl rfl (by kernel_rfl) (fun _ _ _ h => h) (Or.inl ⟨by rfl, ?_⟩) ?_ ?_
  rotate_left
  · intro w'
    go_simp
    with_reducible rfl
  rotate_left
  · simp only [Act.put, List.setIfInBounds_toArray, List.set_cons_zero, List.set_cons_succ, i64_w, i32_w]
    rfl
  refine take_ (i := 1) (N := some 14) (v := ?_) (a' := ?_) #[true, true, false, false, true, false, false, false, false, false] rfl rfl (by kernel_rfl) (fun _ _ _ h => h) (Or.inl ⟨by rfl, ?_⟩) hHeld ?_ ?_
  rotate_left
  · rintro w' ⟨s0, s1⟩
    go_simp
    with_reducible rfl
  rotate_left
  · simp only [Act.put, List.setIfInBounds_toArray, List.set_cons_zero, List.set_cons_succ, i64_w, i32_w]
    rfl
  refine pure_ (i := 2) (N := some 15) (v := ?_) (a' := ?_) #[true, true, true, false, true, false, false, false, false, false] rfl rfl (by kernel_rfl) (fun _ _ _ h => h) (Or.inl ⟨by rfl, ?_⟩) ?_ ?_
  rotate_left
  · intro w'
    go_simp
    with_reducible rfl
  rotate_left
  · simp only [Act.put, List.setIfInBounds_toArray, List.set_cons_zero, List.set_cons_succ, i64_w, i32_w]
    rfl
  refine take_ (i := 5) (N := some 18) (v := ?_) (a' := ?_) #[true, true, true, false, true, true, false, false, false, false] rfl rfl (by kernel_rfl) (fun _ _ _ h => h) (Or.inl ⟨by rfl, ?_⟩) hHeld ?_ ?_
  rotate_left
  · rintro w' ⟨s0, s1⟩
    go_simp
    with_reducible rfl
  rotate_left
  · simp only [Act.put, List.setIfInBounds_toArray, List.set_cons_zero, List.set_cons_succ, i64_w, i32_w]
    rfl
  refine pure_ (i := 6) (N := some 19) (v := ?_) (a' := ?_) #[true, true, true, false, true, true, true, false, false, false] rfl rfl (by kernel_rfl) (fun _ _ _ h => h) (Or.inl ⟨by rfl, ?_⟩) ?_ ?_
  rotate_left
  · intro w'
    go_simp
    with_reducible rfl
  rotate_left
  · simp only [Act.put, List.setIfInBounds_toArray, List.set_cons_zero, List.set_cons_succ, i64_w, i32_w]
    rfl
  refine one_ (i := 3) (N := some 16) #[true, true, true, true, true, true, true, false, false, false] rfl rfl (by kernel_rfl) (by decide) (fun K hK => ?_)
  refine goes_ Tryz.func36 (by kernel_rfl) rfl #[.int .u64 (IntKind.u64.wrap m.gen)] (by rfl) rfl rfl (by simp only [List.map_toArray, List.map_cons, List.map_nil]; rfl) ?_
  with_reducible refine (refVarW_calls m.gen W2 HG0.out.1 (by have := HG0.out.2; omega)).mono ?_
  rintro e wa ⟨va, rfl, hra, hba⟩
  refine ⟨_, rfl, ?_⟩
  have HAa := Aside0.mk (App.of_R (Below.refl _ _) hra hba)
  clear hra hba
  refine hK.out _ _ ⟨pw_cell_below HAa.out.bel q0, pw_cell_below HAa.out.bel q1⟩ (fun hHeld => ?_)
  clear hK K
  refine norm_ (a' := ?_) ?_ ?_
  rotate_left
  · show Act.put _ (some 16) _ = _
    simp only [Act.put, List.setIfInBounds_toArray, List.set_cons_zero, List.set_cons_succ, i64_w, i32_w]
    rfl
  refine one_ (i := 7) (N := some 20) #[true, true, true, true, true, true, true, true, false, false] rfl rfl (by kernel_rfl) (by decide) (fun K hK => ?_)
  refine goes_ Tryz.func36 (by kernel_rfl) rfl #[.int .u64 (IntKind.u64.wrap m.next)] (by rfl) rfl rfl (by simp only [List.map_toArray, List.map_cons, List.map_nil]; rfl) ?_
  with_reducible refine (refVarW_calls m.next wa HG1.out.1 (by have := HG1.out.2; omega)).mono ?_
  rintro e wb ⟨vb, rfl, hrb, hbb⟩
  refine ⟨_, rfl, ?_⟩
  obtain ⟨Ab, cb, rfl, hlb, hcb⟩ := Kd.R_reads hrb
  have HAb := Aside0.mk (HAa.out.below hbb)
  have HCb := Aside0.mk hcb
  clear hrb hbb hlb hcb
  refine hK.out _ _ ⟨pw_cell_below HAb.out.bel q0, pw_cell_below HAb.out.bel q1⟩ (fun hHeld => ?_)
  clear hK K
  refine norm_ (a' := ?_) ?_ ?_
  rotate_left
  · show Act.put _ (some 20) _ = _
    simp only [Act.put, List.setIfInBounds_toArray, List.set_cons_zero, List.set_cons_succ, i64_w, i32_w]
    rfl
  refine one_ (i := 8) (N := some 21) #[true, true, true, true, true, true, true, true, true, false] rfl rfl (by kernel_rfl) (by decide) (fun K hK => ?_)
  refine app_rows_step (by rfl) (.tmp 16) (.tmp 20) (by rfl) va (varP m.gen) (varP m.next) Ab (varP m.next).length cb rfl rfl HAb.out HCb.out (by omega) ?_
  intro vc wc hac hkc
  rw [← HYb.out] at hac
  have HAc := Aside0.mk hac
  clear hac hkc
  refine hK.out _ _ ⟨pw_cell_below HAc.out.bel q0, pw_cell_below HAc.out.bel q1⟩ (fun hHeld => ?_)
  clear hK K
  refine norm_ (a' := ?_) ?_ ?_
  rotate_left
  · show Act.put _ (some 21) _ = _
    simp only [Act.put, List.setIfInBounds_toArray, List.set_cons_zero, List.set_cons_succ, i64_w, i32_w]
    rfl
  refine pure_ (i := 9) (N := some 5) (v := ?_) (a' := ?_) #[true, true, true, true, true, true, true, true, true, true] rfl rfl (by kernel_rfl) (fun _ _ _ h => h) (Or.inl ⟨by rfl, ?_⟩) ?_ ?_
  rotate_left
  · intro w'
    go_simp
    with_reducible rfl
  rotate_left
  · simp only [Act.put, List.setIfInBounds_toArray, List.set_cons_zero, List.set_cons_succ, i64_w, i32_w]
    rfl
  refine done_ (by kernel_rfl) ?_
  clear q0 q1
  have q3 : wc.cell? ⟨w.heap.size, 3, none⟩ = some (.int .i64 m.most) := pw_cell_below HAc.out.bel Q3.out
  go_wp2_with (first | (go_at_call 36; (with_reducible refine (refVarW_calls m.most wc (by have := HG3.out.1; omega) (by have := HG3.out.2; omega)).mono ?_); rintro e wd ⟨vd, rfl, hrd, hbd⟩; obtain ⟨Ad, cd, rfl, hld, hcd⟩ := Kd.R_reads hrd; have HAd := Aside0.mk (HAc.out.below hbd); have HCd := Aside0.mk hcd; clear hrd hbd hld hcd q3) | ((with_reducible refine gate_builtin (b := .append) (xs := #[.tmp 22, .tmp 26]) rfl ?_); at_builtin; refine app_rows rfl (.tmp 22) (.tmp 26) rfl vc yb (varP m.most) Ad (varP m.most).length cd rfl rfl HAd.out HCd.out (by omega) ?_; intro ve we hae hke; rw [← HYc.out] at hae; have HAe := Aside0.mk hae; clear hae hke ; have q2 : we.cell? ⟨w.heap.size, 2, none⟩ = some (.slice As m.schema.length cs) := pw_cell_below HAe.out.bel Q2.out) | (go_at_call 37; (with_reducible refine (refPutSchema_calls As cs m.schema we (Kd.C_below HMC.out.s HAe.out.bel) HMC.out.hs hls).mono ?_); rintro e wf ⟨vf, rfl, hrf, hbf⟩; obtain ⟨Af, cf, rfl, hlf, hcf⟩ := Kd.R_reads hrf; have HAf := Aside0.mk (HAe.out.below hbf); have HCf := Aside0.mk hcf; clear hrf hbf hlf hcf q2) | ((with_reducible refine gate_builtin (b := .append) (xs := #[.tmp 28, .tmp 31]) rfl ?_); at_builtin; refine app_rows rfl (.tmp 28) (.tmp 31) rfl ve yc (schemaF m.schema) Af (schemaF m.schema).length cf rfl rfl HAf.out HCf.out (by omega) ?_; intro vg wg hag hkg; rw [← HYd.out] at hag; have HAg := Aside0.mk hag; clear hag hkg ; have q4 : wg.cell? ⟨w.heap.size, 4, none⟩ = some (.slice Ag m.groups.length cg) := pw_cell_below HAg.out.bel Q4.out) | (go_at_call 36; (with_reducible refine (refVar_calls m.groups.length wg (by omega) (by omega)).mono ?_); rintro e wh ⟨vh, rfl, hrh, hbh⟩; obtain ⟨Ah, ch, rfl, hlh, hch⟩ := Kd.R_reads hrh; have HAh := Aside0.mk (HAg.out.below hbh); have HCh := Aside0.mk hch; clear hrh hbh hlh hch q4) | ((with_reducible refine gate_builtin (b := .append) (xs := #[.tmp 33, .tmp 38]) rfl ?_); at_builtin; refine app_rows rfl (.tmp 33) (.tmp 38) rfl vg yd (varP (m.groups.length : Int)) Ah (varP (m.groups.length : Int)).length ch rfl rfl HAh.out HCh.out (by omega) ?_; intro vi wi hai hki; rw [← HYe.out] at hai; have HAi := Aside0.mk hai; clear hai hki ; have q4 : wi.cell? ⟨w.heap.size, 4, none⟩ = some (.slice Ag m.groups.length cg) := pw_cell_below HAi.out.bel Q4.out))
  clear q4
  go_loopw [5, 6] (fun v5 v6 w' => ∃ (i : Nat) (y : List Int), i ≤ m.groups.length ∧ v6 = .int .i64 i ∧ Aside0 (App W2 w' v5 y) ∧ Aside0 (y ++ (groupsF (m.groups.drop i) ++ tailF m) = T)) (fun _ i => fun _ => m.groups.length - (intOf i).toNat)
  case atStart => exact ⟨0, _, Nat.zero_le _, rfl, HAi, HT2⟩
  case round =>
    obtain ⟨i, y, hi, rfl, HY, HE⟩ := hrel
    have q4 : wr.cell? ⟨w.heap.size, 4, none⟩ = some (.slice Ag m.groups.length cg) := pw_cell_below HY.out.bel Q4.out
    by_cases hlt : i < m.groups.length
    · have hmem := getD_mem m.groups i zRf hlt
      have hhd := HR.out.hd HOK.out HMC.out.g _ hmem
      obtain ⟨hid0, hid1, _, hdl⟩ := groupsL_all HR.out.g _ hmem
      obtain ⟨b, o, ks, e1, hK, hcl, hmm⟩ := C_mid HMC.out.g zRf i hlt (by decide)
      have he := HE.out
      rw [drop_cons m.groups i zRf hlt, groupsF, groupF] at he
      generalize m.groups.getD i zRf = x at *
      obtain ⟨A, c, B, d, rfl, h32, hc, hC, hd, hD⟩ := kRf_open hK
      rw [kRf_sz] at hmm hcl
      have HID := Aside0.mk (show 0 ≤ x.id ∧ x.id ≤ 1099511627776 from ⟨hid0, by have := HG1.out.2; omega⟩)
      have HHD := Aside0.mk hhd
      have HC := Aside0.mk hC
      have HD := Aside0.mk hD
      have HCC := Aside0.mk hc
      have HDD := Aside0.mk hd
      have HDL := Aside0.mk (hd_len x.hd A c h32)
      have HRD := Aside0.mk (range_part (pre := [.int .i64 x.id]) (cs := hdCells x.hd A c) (post := [.slice B x.dead.length d]) hmm (o + i * 37 + 1) rfl)
      have E0 := Aside0.mk (show W2.cell? ⟨b, o + i * 37, none⟩ = some (.int .i64 x.id) from hmm 0 _ rfl)
      have E36 := Aside0.mk (show W2.cell? ⟨b, o + i * 37 + 36, none⟩ = some (.slice B x.dead.length d) from hmm 36 _ (by have := rf_36 x A c B d h32; rwa [List.getElem?_toArray] at this))
      obtain ⟨y7, hy7⟩ : ∃ y7, y7 = y ++ varP x.id := ⟨_, rfl⟩
      obtain ⟨y9, hy9⟩ : ∃ y9, y9 = y7 ++ headP x.hd := ⟨_, rfl⟩
      obtain ⟨ya, hya⟩ : ∃ ya, ya = y9 ++ blobP x.dead := ⟨_, rfl⟩
      have hE : ya ++ (groupsF (m.groups.drop (i + 1)) ++ tailF m) = T := by rw [← he, hya, hy9, hy7]; simp only [List.append_assoc]
      have hyal : ya.length < 1000000000 := by have := congrArg List.length hE; rw [List.length_append] at this; omega
      have hy9l : y9.length + (blobP x.dead).length < 1000000000 := by have := congrArg List.length hya; rw [List.length_append] at this; omega
      have hy7l : y7.length + (headP x.hd).length < 1000000000 := by have := congrArg List.length hy9; rw [List.length_append] at this; omega
      have hyl : y.length + (varP x.id).length < 1000000000 := by have := congrArg List.length hy7; rw [List.length_append] at this; omega
      have HE9 := Aside0.mk hE
      have HQ7 := Aside0.mk hy7
      have HQ9 := Aside0.mk hy9
      have HQa := Aside0.mk hya
      have HDL2 := Aside0.mk hdl
      cases e1
      clear hE hy7 hy9 hya he HE hK hcl hmm hC hD hc hd h32 hid0 hid1 hhd hmem hdl
      have p0 : wr.cell? ⟨b, o + i * 37, none⟩ = some (.int .i64 x.id) := pw_cell_below HY.out.bel E0.out
      go_wp2_with (first | (go_at_call 36; (with_reducible refine (refVarW_calls x.id wr HID.out.1 (by have := HID.out.2; omega)).mono ?_); rintro e wj ⟨vj, rfl, hrj, hbj⟩; obtain ⟨Aj, cj, rfl, hlj, hcj⟩ := Kd.R_reads hrj; have HAj := Aside0.mk (HY.out.below hbj); have HCj := Aside0.mk hcj; clear hrj hbj hlj hcj p0 q4) | ((with_reducible refine gate_builtin (b := .append) (xs := #[.tmp 47, .tmp 55]) rfl ?_); at_builtin; refine app_rows rfl (.tmp 47) (.tmp 55) rfl u5 y (varP x.id) Aj (varP x.id).length cj rfl rfl HAj.out HCj.out (by omega) ?_; intro vk wk hak hkk; rw [← HQ7.out] at hak; have HAk := Aside0.mk hak; clear hak hkk ; have q4 : wk.cell? ⟨w.heap.size, 4, none⟩ = some (.slice (some ⟨b, o, none⟩) m.groups.length cg) := pw_cell_below HAk.out.bel Q4.out; have HRk := Aside0.mk (range_below HRD.out HAk.out.bel)) | (refine wpList_load_mid rfl 64 (.tmp 62) rfl b (o + i * 37 + 1) rfl (hdCells x.hd A c) _ HRk.out Tryz.underlying64 rfl (by rw [HDL.out]; kernel_rfl) ?_) | (go_at_call 38; (with_reducible refine (refPutHeader_calls x.hd A c wk HHD.out HCC.out (Kd.C_below HC.out HAk.out.bel) (by omega)).mono ?_); rintro e wl ⟨vl, rfl, hrl, hbl⟩; obtain ⟨Al, cl, rfl, hll, hcl⟩ := Kd.R_reads hrl; have HAl := Aside0.mk (HAk.out.below hbl); have HCl := Aside0.mk hcl; clear hrl hbl hll hcl q4) | ((with_reducible refine gate_builtin (b := .append) (xs := #[.tmp 57, .tmp 64]) rfl ?_); at_builtin; refine app_rows rfl (.tmp 57) (.tmp 64) rfl vk y7 (headP x.hd) Al (headP x.hd).length cl rfl rfl HAl.out HCl.out (by omega) ?_; intro vm wm ham hkm; rw [← HQ9.out] at ham; have HAm := Aside0.mk ham; clear ham hkm ; have q4 : wm.cell? ⟨w.heap.size, 4, none⟩ = some (.slice (some ⟨b, o, none⟩) m.groups.length cg) := pw_cell_below HAm.out.bel Q4.out; have p36 : wm.cell? ⟨b, o + i * 37 + 36, none⟩ = some (.slice B x.dead.length d) := pw_cell_below HAm.out.bel E36.out) | (go_at_call 39; (with_reducible refine (refBlobP_calls B d x.dead wm (Kd.C_below HD.out HAm.out.bel) HDD.out (by have := HDL2.out; omega)).mono ?_); rintro e wn ⟨vn, rfl, hrn, hbn⟩; obtain ⟨An, cn, rfl, hln, hcn⟩ := Kd.R_reads hrn; have HAn := Aside0.mk (HAm.out.below hbn); have HCn := Aside0.mk hcn; clear hrn hbn hln hcn q4 p36) | ((with_reducible refine gate_builtin (b := .append) (xs := #[.tmp 66, .tmp 73]) rfl ?_); at_builtin; refine app_rows rfl (.tmp 66) (.tmp 73) rfl vm y9 (blobP x.dead) An (blobP x.dead).length cn rfl rfl HAn.out HCn.out (by omega) ?_; intro vq wq haq hkq; rw [← HQa.out] at haq; have HAq := Aside0.mk haq; clear haq hkq ))
      go_roundw
      case rel => exact ⟨i + 1, ya, by omega, by go_num, HAq, HE9⟩
      case measure => simp [intOf]; omega
    · obtain rfl : i = m.groups.length := by omega
      have he := HE.out
      rw [List.drop_eq_nil_of_le (Nat.le_refl _), groupsF, List.nil_append, tailF] at he
      obtain ⟨y5, hy5⟩ : ∃ y5, y5 = y ++ rowsP m.loose := ⟨_, rfl⟩
      obtain ⟨y6, hy6⟩ : ∃ y6, y6 = y5 ++ varP m.entries.length := ⟨_, rfl⟩
      have hE : y6 ++ entriesF (m.entries.drop 0) = T := by rw [← he, hy6, hy5, List.drop_zero]; simp only [List.append_assoc]
      have hy6l : y6.length < 1000000000 := by have := congrArg List.length hE; rw [List.length_append] at this; omega
      have hy5l : y5.length + (varP (m.entries.length : Int)).length < 1000000000 := by have := congrArg List.length hy6; rw [List.length_append] at this; omega
      have hyl : y.length + (rowsP m.loose).length < 1000000000 := by have := congrArg List.length hy5; rw [List.length_append] at this; omega
      have HE6 := Aside0.mk hE
      have HQ5 := Aside0.mk hy5
      have HQ6 := Aside0.mk hy6
      clear hE hy5 hy6 he HE
      have q5 : wr.cell? ⟨w.heap.size, 5, none⟩ = some (.slice Al m.loose.length cl) := pw_cell_below HY.out.bel Q5.out
      have hu6 : IntKind.u64.wrap (m.entries.length : Int) = (m.entries.length : Int) := u64_small _ (by omega) (by omega)
      go_wp2_with (first | (go_at_call 40; (with_reducible refine (refPutRows_calls Al cl m.loose wr (Kd.C_below HMC.out.l HY.out.bel) HOK.out.l (by omega)).mono ?_); rintro e wr ⟨vr, rfl, hrr, hbr⟩; obtain ⟨Ar, cr, rfl, hlr, hcr⟩ := Kd.R_reads hrr; have HAr := Aside0.mk (HY.out.below hbr); have HCr := Aside0.mk hcr; clear hrr hbr hlr hcr q5) | ((with_reducible refine gate_builtin (b := .append) (xs := #[.tmp 75, .tmp 78]) rfl ?_); at_builtin; refine app_rows rfl (.tmp 75) (.tmp 78) rfl u5 y (rowsP m.loose) Ar (rowsP m.loose).length cr rfl rfl HAr.out HCr.out (by omega) ?_; intro vs ws has hks; rw [← HQ5.out] at has; have HAs := Aside0.mk has; clear has hks ; have q6 : ws.cell? ⟨w.heap.size, 6, none⟩ = some (.slice Ae m.entries.length ce) := pw_cell_below HAs.out.bel Q6.out) | (go_at_call 36; (with_reducible refine (refVar_calls m.entries.length ws (by omega) (by omega)).mono ?_); rintro e wt ⟨vt, rfl, hrt, hbt⟩; obtain ⟨At, ct, rfl, hlt, hct⟩ := Kd.R_reads hrt; have HAt := Aside0.mk (HAs.out.below hbt); have HCt := Aside0.mk hct; clear hrt hbt hlt hct q6) | ((with_reducible refine gate_builtin (b := .append) (xs := #[.tmp 80, .tmp 85]) rfl ?_); at_builtin; refine app_rows rfl (.tmp 80) (.tmp 85) rfl vs y5 (varP (m.entries.length : Int)) At (varP (m.entries.length : Int)).length ct rfl rfl HAt.out HCt.out (by omega) ?_; intro vu wu hau hku; rw [← HQ6.out] at hau; have HAu := Aside0.mk hau; clear hau hku ; have q6 : wu.cell? ⟨w.heap.size, 6, none⟩ = some (.slice Ae m.entries.length ce) := pw_cell_below HAu.out.bel Q6.out))
      clear q6 q4
      go_loopw [5, 7] (fun v5 v7 w' => ∃ (i : Nat) (y : List Int), i ≤ m.entries.length ∧ v7 = .int .i64 i ∧ Aside0 (App W2 w' v5 y) ∧ Aside0 (y ++ entriesF (m.entries.drop i) = T)) (fun _ i => fun _ => m.entries.length - (intOf i).toNat)
      case atStart => exact ⟨0, _, Nat.zero_le _, rfl, HAu, HE6⟩
      case round =>
        obtain ⟨i, z, hi, rfl, HZ, HE⟩ := hrel
        have q6 : wr.cell? ⟨w.heap.size, 6, none⟩ = some (.slice Ae m.entries.length ce) := pw_cell_below HZ.out.bel Q6.out
        by_cases hlt : i < m.entries.length
        · have hmem := getD_mem m.entries i zEn hlt
          obtain ⟨hg0, hg1⟩ := entriesL_all HR.out.e _ hmem
          obtain ⟨b, o, ks, e1, hK, hcl, hmm⟩ := C_mid HMC.out.e zEn i hlt (by decide)
          have he := HE.out
          rw [drop_cons m.entries i zEn hlt, entriesF] at he
          generalize m.entries.getD i zEn = x at *
          obtain ⟨rfl, hs, hr⟩ := kEn_open hK
          rw [kEn_sz] at hmm hcl
          have HS := Aside0.mk hs
          have HRR := Aside0.mk hr
          have HG := Aside0.mk (And.intro hg0 hg1)
          have HCL := Aside0.mk hcl
          have HMM := Aside0.mk (range_below hmm HZ.out.bel)
          obtain ⟨z7, hz7⟩ : ∃ z7, z7 = z ++ entP x := ⟨_, rfl⟩
          have hE : z7 ++ entriesF (m.entries.drop (i + 1)) = T := by rw [← he, hz7]; simp only [List.append_assoc]
          have hz7l : z7.length < 1000000000 := by have := congrArg List.length hE; rw [List.length_append] at this; omega
          have hzl : z.length + (entP x).length < 1000000000 := by have := congrArg List.length hz7; rw [List.length_append] at this; omega
          have HE7 := Aside0.mk hE
          have HQ7 := Aside0.mk hz7
          cases e1
          clear hE hz7 he HE hK hcl hmm hs hr hg0 hg1 hmem
          go_wp2_with (first | (refine wpList_load_mid rfl 81 (.tmp 98) rfl b (o + i * 65) rfl (enCells x) _ HMM.out Tryz.underlying81 rfl (by rw [HCL.out]; kernel_rfl) ?_) | (go_at_call 41; (with_reducible refine (refEntPut_calls x HS.out HRR.out HG.out.1 HG.out.2 wr).mono ?_); rintro e wv ⟨vv, rfl, hrv, hbv⟩; obtain ⟨Av, cv, rfl, hlv, hcv⟩ := Kd.R_reads hrv; have HAv := Aside0.mk (HZ.out.below hbv); have HCv := Aside0.mk hcv; clear hrv hbv hlv hcv q6) | ((with_reducible refine gate_builtin (b := .append) (xs := #[.tmp 94, .tmp 100]) rfl ?_); at_builtin; refine app_rows rfl (.tmp 94) (.tmp 100) rfl u5 z (entP x) Av (entP x).length cv rfl rfl HAv.out HCv.out (by omega) ?_; intro vw ww haw hkw; rw [← HQ7.out] at haw; have HAw := Aside0.mk haw; clear haw hkw ))
          go_roundw
          case rel => exact ⟨i + 1, z7, by omega, by go_num, HAw, HE7⟩
          case measure => simp [intOf]; omega
        · obtain rfl : i = m.entries.length := by omega
          have he := HE.out
          rw [List.drop_eq_nil_of_le (Nat.le_refl _), entriesF, List.append_nil] at he
          subst he
          obtain ⟨Az, cz, rfl, hlz, hcz⟩ := Kd.R_reads HZ.out.own
          have HCZ := Aside0.mk hcz
          have HLZ := Aside0.mk hlz
          have HF2 := Aside0.mk (show estreatref04_Put.f k z = some rt by rw [HT.out]; exact HF.out)
          clear hcz hlz
          go_wp2_with (go_at_call 42; refine (estreatref04_Put.calls k Az cz z rt wr HCZ.out HLZ.out HF2.out).mono ?_; rintro e wk ⟨vk, rfl, hrk, hbk⟩; have HOk := Aside0.mk hrk; have HBk := Aside0.mk hbk; clear hrk hbk)
          go_ret2
          have z1 := HBW.out.size
          have z2 := HZ.out.bel.size
          exact ⟨_, rfl, Kd.R_lower HOk.out (by omega), HBW.out.trans ((HZ.out.bel.mono z1).trans (HBk.out.mono (by omega)))⟩
end Go.Proofs.YtjmhiklmlgbifaaGreatDoor.PMan
end
section
namespace Go.Proofs.YtjmhiklmlgbifaaGreatDoor.PMan
open Go.RowKit Go.Proofs.YtjmhiklmlgbifaaGreatDoorW.PrintWords Go.Proofs.YtjmhiklmlgbifaaGreatDoorW.PrintLast Go.Proofs.YtjmhiklmlgbifaaGreatDoorW.PrintMore
attribute [local go_sem] max2_int min2_int max_two min_two max_three min_three max_four min_four   -- for this text's walks alone
set_option linter.unusedVariables false
set_option linter.unusedSimpArgs false
mutual
def estreatref01_Text.l0 : Nat → Int → ByteArray → Option (ByteArray)
  | 0, _, _ => none
  | k + 1, x0, x3 => if x0 > 9 then ((some (([(wrap64 (48 + (Int.tmod (wrap64 (Int.tdiv x0 10)) 10))) % 256] : List Int) : List Int)).bind fun y286 => (if (strOfNums y286).size + x3.size ≤ 9223372036854775807 then (estreatref01_Text.l0 k (wrap64 (Int.tdiv x0 10)) ((strOfNums y286) ++ x3)) else (none))) else (some x3)
def estreatref01_Text.f : Nat → Int → Option (ByteArray)
  | 0, _ => none
  | k + 1, a0 => if a0 < 0 then ((estreatref01_Text.f k (wrap64 (-a0))).bind fun t282 => (if 1 + t282.size ≤ 9223372036854775807 then (some ((⟨#[45]⟩ : ByteArray) ++ t282)) else (none))) else (estreatref01_Text.l0 k a0 (strOfNums (([(wrap64 (48 + (Int.tmod a0 10))) % 256] : List Int))))
end
theorem estreatref01_Text.mono_l : ∀ k, (∀ y0, LeO (estreatref01_Text.f k y0) (estreatref01_Text.f (k + 1) y0)) ∧ (∀ y0 y1, LeO (estreatref01_Text.l0 k y0 y1) (estreatref01_Text.l0 (k + 1) y0 y1))
  | 0 => ⟨fun _ r h => by simp [estreatref01_Text.f] at h, fun _ _ r h => by simp [estreatref01_Text.l0] at h⟩
  | k + 1 => by
    obtain ⟨ih0, ih1⟩ := estreatref01_Text.mono_l k
    refine ⟨?_, ?_⟩
    · intro y0
      unfold estreatref01_Text.f
      repeat' first
      | (with_reducible exact ih0 _)
      | (with_reducible exact ih1 _ _)
      | (with_reducible exact LeO.refl _)
      | (with_reducible exact LeO.none _)
      | (with_reducible refine LeO.ite ?_ ?_)
      | (with_reducible refine LeO.bind ?_ (fun _ => ?_))
      | exact ih0 _
      | exact ih1 _ _
      | exact LeO.none _
      | refine LeO.ite ?_ ?_
      | refine LeO.bind ?_ (fun _ => ?_)
    · intro y0 y1
      unfold estreatref01_Text.l0
      repeat' first
      | (with_reducible exact ih0 _)
      | (with_reducible exact ih1 _ _)
      | (with_reducible exact LeO.refl _)
      | (with_reducible exact LeO.none _)
      | (with_reducible refine LeO.ite ?_ ?_)
      | (with_reducible refine LeO.bind ?_ (fun _ => ?_))
      | exact ih0 _
      | exact ih1 _ _
      | exact LeO.none _
      | refine LeO.ite ?_ ?_
      | refine LeO.bind ?_ (fun _ => ?_)
theorem estreatref01_Text.mono : ∀ a0 k, LeO (estreatref01_Text.f k a0) (estreatref01_Text.f (k + 1) a0) := by
  intro a0 k
  obtain ⟨ih0, ih1⟩ := estreatref01_Text.mono_l k
  exact ih0 a0
set_option maxHeartbeats 8000000 in
set_option maxRecDepth 100000 in
theorem estreatref01_Text.calls (k : Nat) : ∀ (a0 : Int) (r : ByteArray) (w : World) (h : estreatref01_Text.f k a0 = some r),
    Calls Tryz.prog 16 #[.int .i64 a0] w fun e w' => e = .returned (.string r) ∧ Below w.heap.size w w' := by
  induction k using Nat.strongRecOn with
  | _ k ih =>
  intro a0 r w h
  cases k with
  | zero => exact absurd h (by simp [estreatref01_Text.f])
  | succ k =>
  simp only [estreatref01_Text.f] at h
  have HB := Aside0.mk (Below.refl w.heap.size w)
  have H : (if a0 < 0 then ((estreatref01_Text.f k (wrap64 (-a0))).bind fun t282 => (if 1 + t282.size ≤ 9223372036854775807 then (some ((⟨#[45]⟩ : ByteArray) ++ t282)) else (none))) else (estreatref01_Text.l0 k a0 (strOfNums (([(wrap64 (48 + (Int.tmod a0 10))) % 256] : List Int))))) = some r := h
  clear h
  by_cases c2 : a0 < 0
  · rw [if_pos c2] at H
    have c2b0 : decide (a0 < 0) = true := decide_eq_true c2
    clear c2
    replace H := Option.bind_eq_some_iff.mp H
    obtain ⟨t282, A30, H⟩ := H
    replace H : (if 1 + t282.size ≤ 9223372036854775807 then (some ((⟨#[45]⟩ : ByteArray) ++ t282)) else (none)) = some r := H
    have A3 := Aside0.mk A30
    clear A30
    by_cases c4 : 1 + t282.size ≤ 9223372036854775807
    · rw [if_pos c4] at H
      have c4b0 := eq_true c4
      have c4b1 : decide (1 + t282.size ≤ 9223372036854775807) = true := decide_eq_true c4
      try have c4b2 : (9223372036854775807 < 1 + t282.size) = False := eq_false (Nat.not_lt.2 c4)
      obtain rfl := Option.some.inj H
      go_enter Tryz.func16, Tryz.ntmps16
      go_wp2_with (first | ((with_reducible refine gate_callee (f := 16) rfl ?_); refine goesL_ (some 8) rfl rfl Tryz.func16 (by kernel_rfl) rfl #[.int .i64 (wrap64 (-a0))] rfl (by (try simp only [List.map_toArray, List.map_cons, List.map_nil]); first | done | rfl | (simp only [List.length_drop, List.length_take]; rfl)) ?_; (with_reducible refine (ih k (by omega) (wrap64 (-a0)) t282 _ A3.out).mono ?_); rintro e w5 ⟨rfl, hb⟩; refine ⟨_, rfl, ?_⟩; have n0_ := Aside0.mk (below_step (by repeat (first | (with_reducible first | exact HB.out | apply below_alloc | apply pw_below_drewN | apply below_drew1) | exact HB.out)) hb); clear HB; have HB := n0_; clear n0_; (try clear hb); (try clear hb2); (try clear hk); (try clear hi)))
      go_ret
      exact ⟨by first | rfl | (simp [errW_none, errW_some] <;> rfl) | (simp [*, errW_none, errW_some] <;> rfl), by repeat (first | (with_reducible first | exact HB.out | apply below_alloc | apply pw_below_drewN | apply below_drew1) | exact HB.out)⟩
    · rw [if_neg c4] at H
      exact absurd H (by simp)
  · rw [if_neg c2] at H
    have c2b0 : decide (a0 < 0) = false := decide_eq_false c2
    clear c2
    obtain ⟨y283, hy283⟩ : ∃ y_ : List Int, y_ = (([(wrap64 (48 + (Int.tmod a0 10))) % 256] : List Int)) := ⟨_, rfl⟩
    replace H : (estreatref01_Text.l0 k a0 (strOfNums y283)) = some r := by first | (rw [hy283]; with_reducible exact H) | (have H2_ := (Option.bind_some _ _).symm.trans H; rw [hy283]; with_reducible exact H2_) | (have H2_ := (Option.bind_some _ _).symm.trans H; with_reducible exact H2_) | with_reducible exact H | (rw [hy283]; exact H) | exact H
    have Ny283 := Aside0.mk hy283
    clear hy283
    have H' := Aside0.mk H
    clear H
    go_enter Tryz.func16, Tryz.ntmps16
    go_wp2_with (first | ((with_reducible refine gate_dst (N := 14) rfl ?_); refine Kd.R_lit (Kd.int .u8) _ 5 ?hg (N := 14) ?hd (xs := ([(wrap64 (48 + (Int.tmod a0 10))) % 256] : List Int)) (inner := [.int .u8 ((wrap64 (48 + (Int.tmod a0 10))) % 256)]) (ok := fun _ => True) (okp := fun _ => True) ?hr ?hp (fun _ hk => hk) trivial (Below.refl _ _) (Nat.le_refl _) (by simp) ?_; (case hd => rfl); (case hg => rfl); (case hr => first | (go_simp; done) | (go_simp; rfl)); (case hp => exact (Reps.one (show Kd.M (Kd.int .u8) _ _ _ ((wrap64 (48 + (Int.tmod a0 10))) % 256) [.int .u8 ((wrap64 (48 + (Int.tmod a0 10))) % 256)] from rfl) (Reps.none _ _))); intro v284 w6 ho7 hb hg_ hnew_; clear hg_ hnew_; (first | rw [← Ny283.out] at ho7 | (simp only [Int.reduceToNat] at ho7; rw [← Ny283.out] at ho7)); have n0_ := Aside0.mk (Kd.R_lower ho7 (below_size (by repeat (first | (with_reducible first | exact HB.out | apply below_alloc | apply pw_below_drewN | apply below_drew1) | exact HB.out)))); have n1_ := Aside0.mk (below_step (by repeat (first | (with_reducible first | exact HB.out | apply below_alloc | apply pw_below_drewN | apply below_drew1) | exact HB.out)) hb); clear HB; have HO285 := n0_; have HB := n1_; clear n0_ n1_; clear hb ho7; have hcv8 := own_string (P := Tryz.prog) Tryz.underlying30 Tryz.underlying5 Tryz.underlying9 (Kd.own_of_R HO285.out)))
    go_loopg [0, 3] k (fun kq v0 v3 w' => ∃ (x0_1 : Int) (x3_1 : ByteArray), v0 = .int .i64 x0_1 ∧ v3 = .string x3_1 ∧ Aside0 (estreatref01_Text.l0 kq x0_1 x3_1 = some r) ∧ Aside0 (kq ≤ k) ∧ Aside0 (Below w.heap.size w w'))
    case atStart => exact ⟨(a0), (strOfNums y283), (by first | rfl | (simp; done) | (simp [*]; done)), (by first | rfl | (simp; done) | (simp [*]; done)), H', ⟨Nat.le_refl _⟩, ⟨by repeat (first | (with_reducible first | exact HB.out | apply below_alloc | apply pw_below_drewN | apply below_drew1) | exact HB.out)⟩⟩
    case round =>
      clear H'
      try clear c1
      try clear c2
      try clear c2b0
      try clear p2
      try clear c4
      try clear c4b0
      try clear c4b1
      try clear c4b2
      try clear p6
      try clear hcv8
      obtain ⟨x0_1, x3_1, rfl, rfl, HA, HK1, HB⟩ := hrel
      cases gk with
      | zero => exact absurd HA.out (by simp [estreatref01_Text.l0])
      | succ k1 =>
        have H := HA.out
        clear HA
        simp only [estreatref01_Text.l0] at H
        by_cases c9 : x0_1 > 9
        · rw [if_pos c9] at H
          have c9b0 : decide (9 < x0_1) = true := decide_eq_true c9
          clear c9
          obtain ⟨y286, hy286⟩ : ∃ y_ : List Int, y_ = (([(wrap64 (48 + (Int.tmod (wrap64 (Int.tdiv x0_1 10)) 10))) % 256] : List Int)) := ⟨_, rfl⟩
          replace H : (if (strOfNums y286).size + x3_1.size ≤ 9223372036854775807 then (estreatref01_Text.l0 k1 (wrap64 (Int.tdiv x0_1 10)) ((strOfNums y286) ++ x3_1)) else (none)) = some r := by first | (rw [hy286]; with_reducible exact H) | (have H2_ := (Option.bind_some _ _).symm.trans H; rw [hy286]; with_reducible exact H2_) | (have H2_ := (Option.bind_some _ _).symm.trans H; with_reducible exact H2_) | with_reducible exact H | (rw [hy286]; exact H) | exact H
          have Ny286 := Aside0.mk hy286
          clear hy286
          by_cases c10 : (strOfNums y286).size + x3_1.size ≤ 9223372036854775807
          · rw [if_pos c10] at H
            have c10b0 := eq_true c10
            have c10b1 : decide ((strOfNums y286).size + x3_1.size ≤ 9223372036854775807) = true := decide_eq_true c10
            try have c10b2 : (9223372036854775807 < (strOfNums y286).size + x3_1.size) = False := eq_false (Nat.not_lt.2 c10)
            have H' := Aside0.mk H
            clear H
            go_wp2_with (first | ((with_reducible refine gate_dst (N := 24) rfl ?_); refine Kd.R_lit (Kd.int .u8) _ 5 ?hg (N := 24) ?hd (xs := ([(wrap64 (48 + (Int.tmod (wrap64 (Int.tdiv x0_1 10)) 10))) % 256] : List Int)) (inner := [.int .u8 ((wrap64 (48 + (Int.tmod (wrap64 (Int.tdiv x0_1 10)) 10))) % 256)]) (ok := fun _ => True) (okp := fun _ => True) ?hr ?hp (fun _ hk => hk) trivial (Below.refl _ _) (Nat.le_refl _) (by simp) ?_; (case hd => rfl); (case hg => rfl); (case hr => first | (go_simp; done) | (go_simp; rfl)); (case hp => exact (Reps.one (show Kd.M (Kd.int .u8) _ _ _ ((wrap64 (48 + (Int.tmod (wrap64 (Int.tdiv x0_1 10)) 10))) % 256) [.int .u8 ((wrap64 (48 + (Int.tmod (wrap64 (Int.tdiv x0_1 10)) 10))) % 256)] from rfl) (Reps.none _ _))); intro v287 w11 ho12 hb hg_ hnew_; clear hg_ hnew_; (first | rw [← Ny286.out] at ho12 | (simp only [Int.reduceToNat] at ho12; rw [← Ny286.out] at ho12)); have n0_ := Aside0.mk (Kd.R_lower ho12 (below_size (by repeat (first | (with_reducible first | exact HB.out | apply below_alloc | apply pw_below_drewN | apply below_drew1) | exact HB.out)))); have n1_ := Aside0.mk (below_step (by repeat (first | (with_reducible first | exact HB.out | apply below_alloc | apply pw_below_drewN | apply below_drew1) | exact HB.out)) hb); clear HB; have HO288 := n0_; have HB := n1_; clear n0_ n1_; clear hb ho12; have hcv13 := own_string (P := Tryz.prog) Tryz.underlying30 Tryz.underlying5 Tryz.underlying9 (Kd.own_of_R HO288.out)))
            go_roundg k1
            case measure => have := HK1.out; omega
            case rel => exact ⟨(wrap64 (Int.tdiv x0_1 10)), ((strOfNums y286) ++ x3_1), (by first | rfl | (simp; done) | (simp [*]; done)), (by first | rfl | (simp; done) | (simp [*]; done)), H', ⟨by have := HK1.out; omega⟩, ⟨by repeat (first | (with_reducible first | exact HB.out | apply below_alloc | apply pw_below_drewN | apply below_drew1) | exact HB.out)⟩⟩
          · rw [if_neg c10] at H
            exact absurd H (by simp)
        · rw [if_neg c9] at H
          have c9b0 : decide (9 < x0_1) = false := decide_eq_false c9
          clear c9
          obtain rfl := Option.some.inj H
          go_wp2
          go_ret
          exact ⟨by first | rfl | (simp [errW_none, errW_some] <;> rfl) | (simp [*, errW_none, errW_some] <;> rfl), by repeat (first | (with_reducible first | exact HB.out | apply below_alloc | apply pw_below_drewN | apply below_drew1) | exact HB.out)⟩
end Go.Proofs.YtjmhiklmlgbifaaGreatDoor.PMan
end
section
namespace Go.Proofs.YtjmhiklmlgbifaaGreatDoor.PMan
open Go.RowKit Go.Proofs.YtjmhiklmlgbifaaGreatDoorW.PrintWords Go.Proofs.YtjmhiklmlgbifaaGreatDoorW.PrintLast Go.Proofs.YtjmhiklmlgbifaaGreatDoorW.PrintMore
attribute [local go_sem] max2_int min2_int max_two min_two max_three min_three max_four min_four   -- for this text's walks alone
set_option linter.unusedVariables false
set_option linter.unusedSimpArgs false
set_option maxHeartbeats 1600000 in
set_option maxRecDepth 100000 in
theorem m_log3 (w : World) : Calls Tryz.prog 15 #[.int .i64 3] w fun e w' => e = .returned (.string ⟨#[108, 111, 103, 45, 51]⟩) ∧ w = w' := by
  go_enter Tryz.func15, Tryz.ntmps15
  go_wp2
  go_ret
  exact ⟨by kernel_rfl, rfl⟩
set_option maxHeartbeats 1600000 in
set_option maxRecDepth 100000 in
theorem m_group12 (w : World) : Calls Tryz.prog 17 #[.int .i64 12] w fun e w' => e = .returned (.string ⟨#[103, 114, 111, 117, 112, 45, 49, 50]⟩) ∧ w = w' := by
  go_enter Tryz.func17, Tryz.ntmps17
  go_wp2
  go_ret
  exact ⟨by kernel_rfl, rfl⟩
def estreatlaw26_awake.f : Option Bool := some true
set_option maxHeartbeats 4000000 in
set_option maxRecDepth 100000 in
theorem m_awake (w : World) (hG : ErrT w) : Calls Tryz.prog 9 #[] w fun ev w' => ev = .returned (.bool true) ∧ Below w.heap.size w w' := by
  have HG := Aside0.mk hG
  clear hG
  go_enter Tryz.func9, Tryz.ntmps9
  go_wp2_with fail
  refine (m_least w).mono ?_
  rintro ev w1 ⟨s1, e1, rfl, hM, hb⟩
  have HM1 := Aside0.mk hM
  have HB1 := Aside0.mk hb
  clear hM hb
  go_wp2_with fail
  refine (m_put s1 1 e1 1 w1 HM1.out).mono ?_
  rintro ev w2 ⟨v, rfl, hr, hb⟩
  obtain ⟨A, c, rfl⟩ := Kd.R_slice hr
  have hrd := Kd.R_reads' hr
  have HRD := Aside0.mk hrd.2.2
  have HCD := Aside0.mk hrd.2.1
  have HB2 := Aside0.mk (below_then HB1.out HB1.out.size hb)
  clear hr hb hrd
  go_wp2_with fail
  refine (m_take A c w2 HRD.out HCD.out (HG.out.of_below HB2.out)).mono ?_
  rintro ev w3 ⟨s, cs, e, ce, rfl, hM, hb⟩
  have HM3 := Aside0.mk hM
  have HB3 := Aside0.mk (below_then HB2.out HB2.out.size hb)
  clear hM hb
  go_wp2_with (refine wpList_store_row rfl 27 (.tmp 3) (.tmp 13) rfl w3.heap.size (MCells 0 0 (.slice (some ⟨s, 0, none⟩) 1 cs) 1 (.slice (some ⟨e, 0, none⟩) 1 ce)) rfl rfl 27 (MCells 0 0 (.slice none 0 0) 0 (.slice none 0 0)) (heap_alloc_new w3 _) (by kernel_rfl) rfl (by kernel_rfl) ?_; rw [World.setRow_alloc_new])
  have hx : (w3.alloc (.cells (MCells 0 0 (.slice (some ⟨s, 0, none⟩) 1 cs) 1 (.slice (some ⟨e, 0, none⟩) 1 ce)) 27)).drew.heap[w3.heap.size]? = some (.cells (MCells 0 0 (.slice (some ⟨s, 0, none⟩) 1 cs) 1 (.slice (some ⟨e, 0, none⟩) 1 ce)) 27 (0, 0)) := heap_alloc_new w3 _
  have hb4 : Below w3.heap.size w3 (w3.alloc (.cells (MCells 0 0 (.slice (some ⟨s, 0, none⟩) 1 cs) 1 (.slice (some ⟨e, 0, none⟩) 1 ce)) 27)).drew := below_drew (below_alloc (Below.refl _ _) _)
  have HX := Aside0.mk hx
  have HB4 := Aside0.mk (below_then HB3.out HB3.out.size hb4)
  have HM4 := Aside0.mk (HM3.out.below hb4)
  clear hb4
  refine start_ (n := 20) (S := fun w' => w'.heap[w3.heap.size]? = some (.cells (MCells 0 0 (.slice (some ⟨s, 0, none⟩) 1 cs) 1 (.slice (some ⟨e, 0, none⟩) 1 ce)) 27 (0, 0))) (ds := []) #[false, false, false, false, false, false, false, false, false, false, false, false, false, false, false, false, false, false, false, false] (by kernel_rfl) rfl rfl (hx) (fun hHeld => ?_)
  generalize (w3.alloc (.cells (MCells 0 0 (.slice (some ⟨s, 0, none⟩) 1 cs) 1 (.slice (some ⟨e, 0, none⟩) 1 ce)) 27)).drew = W4 at *
  refine one_ (i := 0) (N := some 15) #[true, false, false, false, false, false, false, false, false, false, false, false, false, false, false, false, false, false, false, false] rfl rfl (by kernel_rfl) (by decide) (fun K hK => ?_)
  refine goes_ Tryz.func15 (by kernel_rfl) rfl #[.int .i64 3] (by rfl) rfl rfl (by simp only [List.map_toArray, List.map_cons, List.map_nil]; rfl) ?_
  with_reducible refine (m_log3 _).mono ?_
  rintro ev w' ⟨rfl, rfl⟩
  refine ⟨_, rfl, ?_⟩
  refine hK.out _ _ (hx) (fun hHeld => ?_)
  clear hK K
  refine norm_ (a' := ?_) ?_ ?_
  rotate_left
  · show Act.put _ (some 15) _ = _
    simp only [Act.put, List.setIfInBounds_toArray, List.set_cons_zero, List.set_cons_succ, i64_w, i32_w]
    rfl
  refine pure_ (i := 1) (N := some 16) (v := ?_) (a' := ?_) #[true, true, false, false, false, false, false, false, false, false, false, false, false, false, false, false, false, false, false, false] rfl rfl (by kernel_rfl) (fun _ _ _ h => h) (Or.inl ⟨by rfl, ?_⟩) ?_ ?_
  rotate_left
  · intro w'
    go_simp
    with_reducible rfl
  rotate_left
  · simp only [Act.put, List.setIfInBounds_toArray, List.set_cons_zero, List.set_cons_succ, i64_w, i32_w]
    rfl
  refine pure_ (i := 2) (N := some 17) (v := ?_) (a' := ?_) #[true, true, true, false, false, false, false, false, false, false, false, false, false, false, false, false, false, false, false, false] rfl rfl (by kernel_rfl) (fun _ _ _ h => h) (Or.inl ⟨by rfl, ?_⟩) ?_ ?_
  rotate_left
  · intro w'
    go_simp
    with_reducible rfl
  rotate_left
  · simp only [Act.put, List.setIfInBounds_toArray, List.set_cons_zero, List.set_cons_succ, i64_w, i32_w]
    rfl
  refine one_ (i := 3) (N := some 18) #[true, true, true, true, false, false, false, false, false, false, false, false, false, false, false, false, false, false, false, false] rfl rfl (by kernel_rfl) (by decide) (fun K hK => ?_)
  refine goes_ Tryz.func17 (by kernel_rfl) rfl #[.int .i64 12] (by rfl) rfl rfl (by simp only [List.map_toArray, List.map_cons, List.map_nil]; rfl) ?_
  with_reducible refine (m_group12 _).mono ?_
  rintro ev w' ⟨rfl, rfl⟩
  refine ⟨_, rfl, ?_⟩
  refine hK.out _ _ (hx) (fun hHeld => ?_)
  clear hK K
  refine norm_ (a' := ?_) ?_ ?_
  rotate_left
  · show Act.put _ (some 18) _ = _
    simp only [Act.put, List.setIfInBounds_toArray, List.set_cons_zero, List.set_cons_succ, i64_w, i32_w]
    rfl
  refine pure_ (i := 4) (N := some 19) (v := ?_) (a' := ?_) #[true, true, true, true, true, false, false, false, false, false, false, false, false, false, false, false, false, false, false, false] rfl rfl (by kernel_rfl) (fun _ _ _ h => h) (Or.inl ⟨by rfl, ?_⟩) ?_ ?_
  rotate_left
  · intro w'
    go_simp
    with_reducible rfl
  rotate_left
  · simp only [Act.put, List.setIfInBounds_toArray, List.set_cons_zero, List.set_cons_succ, i64_w, i32_w]
    rfl
  refine pure_ (i := 5) (N := some 20) (v := ?_) (a' := ?_) #[true, true, true, true, true, true, false, false, false, false, false, false, false, false, false, false, false, false, false, false] rfl rfl (by kernel_rfl) (fun _ _ _ h => h) (Or.inl ⟨by rfl, ?_⟩) ?_ ?_
  rotate_left
  · intro w'
    go_simp
    with_reducible rfl
  rotate_left
  · simp only [Act.put, List.setIfInBounds_toArray, List.set_cons_zero, List.set_cons_succ, i64_w, i32_w]
    rfl
  refine pure_ (i := 6) (N := some 21) (v := ?_) (a' := ?_) #[true, true, true, true, true, true, true, false, false, false, false, false, false, false, false, false, false, false, false, false] rfl rfl (by kernel_rfl) (fun _ _ _ h => h) (Or.inl ⟨by rfl, ?_⟩) ?_ ?_
  rotate_left
  · intro w'
    go_simp
    with_reducible rfl
  rotate_left
  · simp only [Act.put, List.setIfInBounds_toArray, List.set_cons_zero, List.set_cons_succ, i64_w, i32_w]
    rfl
  refine pure_ (i := 7) (N := some 22) (v := ?_) (a' := ?_) #[true, true, true, true, true, true, true, true, false, false, false, false, false, false, false, false, false, false, false, false] rfl rfl (by kernel_rfl) (fun _ _ _ h => h) (Or.inl ⟨by rfl, ?_⟩) ?_ ?_
  rotate_left
  · intro w'
    go_simp
    with_reducible rfl
  rotate_left
  · simp only [Act.put, List.setIfInBounds_toArray, List.set_cons_zero, List.set_cons_succ, i64_w, i32_w]
    rfl
  refine pure_ (i := 8) (N := some 23) (v := ?_) (a' := ?_) #[true, true, true, true, true, true, true, true, true, false, false, false, false, false, false, false, false, false, false, false] rfl rfl (by kernel_rfl) (fun _ _ _ h => h) (Or.inl ⟨by rfl, ?_⟩) ?_ ?_
  rotate_left
  · intro w'
    go_simp
    with_reducible rfl
  rotate_left
  · simp only [Act.put, List.setIfInBounds_toArray, List.set_cons_zero, List.set_cons_succ, i64_w, i32_w]
    rfl
  refine pure_ (i := 9) (N := some 24) (v := ?_) (a' := ?_) #[true, true, true, true, true, true, true, true, true, true, false, false, false, false, false, false, false, false, false, false] rfl rfl (by kernel_rfl) (fun _ _ _ h => h) (Or.inl ⟨by rfl, ?_⟩) ?_ ?_
  rotate_left
  · intro w'
    go_simp
    with_reducible rfl
  rotate_left
  · simp only [Act.put, List.setIfInBounds_toArray, List.set_cons_zero, List.set_cons_succ, i64_w, i32_w]
    rfl
  refine pure_ (i := 10) (N := some 25) (v := ?_) (a' := ?_) #[true, true, true, true, true, true, true, true, true, true, true, false, false, false, false, false, false, false, false, false] rfl rfl (by kernel_rfl) (fun _ _ _ h => h) (Or.inl ⟨by rfl, ?_⟩) ?_ ?_
  rotate_left
  · intro w'
    go_simp
    with_reducible rfl
  rotate_left
  · simp only [Act.put, List.setIfInBounds_toArray, List.set_cons_zero, List.set_cons_succ, i64_w, i32_w]
    rfl
  refine pure_ (i := 11) (N := some 26) (v := ?_) (a' := ?_) #[true, true, true, true, true, true, true, true, true, true, true, true, false, false, false, false, false, false, false, false] rfl rfl (by kernel_rfl) (fun _ _ _ h => h) (Or.inl ⟨by rfl, ?_⟩) ?_ ?_
  rotate_left
  · intro w'
    go_simp
    with_reducible rfl
  rotate_left
  · simp only [Act.put, List.setIfInBounds_toArray, List.set_cons_zero, List.set_cons_succ, i64_w, i32_w]
    rfl
  refine pure_ (i := 12) (N := some 27) (v := ?_) (a' := ?_) #[true, true, true, true, true, true, true, true, true, true, true, true, true, false, false, false, false, false, false, false] rfl rfl (by kernel_rfl) (fun _ _ _ h => h) (Or.inl ⟨by rfl, ?_⟩) ?_ ?_
  rotate_left
  · intro w'
    go_simp
    with_reducible rfl
  rotate_left
  · simp only [Act.put, List.setIfInBounds_toArray, List.set_cons_zero, List.set_cons_succ, i64_w, i32_w]
    rfl
  refine pure_ (i := 13) (N := some 28) (v := ?_) (a' := ?_) #[true, true, true, true, true, true, true, true, true, true, true, true, true, true, false, false, false, false, false, false] rfl rfl (by kernel_rfl) (fun _ _ _ h => h) (Or.inl ⟨by rfl, ?_⟩) ?_ ?_
  rotate_left
  · intro w'
    go_simp
    with_reducible rfl
  rotate_left
  · simp only [Act.put, List.setIfInBounds_toArray, List.set_cons_zero, List.set_cons_succ, i64_w, i32_w]
    rfl
  refine pure_ (i := 14) (N := some 29) (v := ?_) (a' := ?_) #[true, true, true, true, true, true, true, true, true, true, true, true, true, true, true, false, false, false, false, false] rfl rfl (by kernel_rfl) (fun _ _ _ h => h) (Or.inl ⟨by rfl, ?_⟩) ?_ ?_
  rotate_left
  · intro w'
    go_simp
    with_reducible rfl
  rotate_left
  · simp only [Act.put, List.setIfInBounds_toArray, List.set_cons_zero, List.set_cons_succ, i64_w, i32_w]
    rfl
  refine take_ (i := 15) (N := some 30) (v := ?_) (a' := ?_) #[true, true, true, true, true, true, true, true, true, true, true, true, true, true, true, true, false, false, false, false] rfl rfl (by kernel_rfl) (fun _ _ _ h => h) (Or.inl ⟨by rfl, ?_⟩) hHeld ?_ ?_
  rotate_left
  · intro w' s0
    refine exec_load 27 (.tmp 3) ?_ w3.heap.size ?_ 27 (MCells 0 0 (.slice (some ⟨s, 0, none⟩) 1 cs) 1 (.slice (some ⟨e, 0, none⟩) 1 ce)) (0, 0) _ s0 Tryz.underlying27 rfl ?_
    · rfl
    · rfl
    · kernel_rfl
  rotate_left
  · simp only [Act.put, List.setIfInBounds_toArray, List.set_cons_zero, List.set_cons_succ, i64_w, i32_w]
    rfl
  refine one_ (i := 16) (N := some 31) #[true, true, true, true, true, true, true, true, true, true, true, true, true, true, true, true, true, false, false, false] rfl rfl (by kernel_rfl) (by decide) (fun K hK => ?_)
  refine goes_ Tryz.func28 (by kernel_rfl) rfl #[] (by rfl) rfl rfl (by simp) ?_
  with_reducible refine (m_least W4).mono ?_
  rintro ev w5 ⟨s2, e2, rfl, hM2, hb5⟩
  refine ⟨_, rfl, ?_⟩
  have HM2 := Aside0.mk hM2
  have HB5 := Aside0.mk hb5
  have hx := (hb5.block _ (blk_lt HX.out)).trans HX.out
  clear hM2 hb5
  refine hK.out _ _ (hx) (fun hHeld => ?_)
  clear hK K
  refine norm_ (a' := ?_) ?_ ?_
  rotate_left
  · show Act.put _ (some 31) _ = _
    simp only [Act.put, List.setIfInBounds_toArray, List.set_cons_zero, List.set_cons_succ, i64_w, i32_w]
    rfl
  refine one_ (i := 17) (N := some 32) #[true, true, true, true, true, true, true, true, true, true, true, true, true, true, true, true, true, true, false, false] rfl rfl (by kernel_rfl) (by decide) (fun K hK => ?_)
  refine goes_ Tryz.func20 (by kernel_rfl) rfl #[ManV s cs e ce, ManV s2 1 e2 1] (by rfl) rfl rfl (by simp only [List.map_toArray, List.map_cons, List.map_nil]; rfl) ?_
  with_reducible refine (m_same s cs e ce s2 1 e2 1 w5 (HM4.out.below HB5.out) HM2.out).mono ?_
  rintro ev w6 ⟨rfl, hb6⟩
  refine ⟨_, rfl, ?_⟩
  have HB6 := Aside0.mk hb6
  clear hb6
  refine hK.out _ _ ((HB6.out.block _ (blk_lt hx)).trans hx) (fun hHeld => ?_)
  clear hK K
  refine norm_ (a' := ?_) ?_ ?_
  rotate_left
  · show Act.put _ (some 32) _ = _
    simp only [Act.put, List.setIfInBounds_toArray, List.set_cons_zero, List.set_cons_succ, i64_w, i32_w]
    rfl
  refine pure_ (i := 18) (N := some 33) (v := ?_) (a' := ?_) #[true, true, true, true, true, true, true, true, true, true, true, true, true, true, true, true, true, true, true, false] rfl rfl (by kernel_rfl) (fun _ _ _ h => h) (Or.inl ⟨by rfl, ?_⟩) ?_ ?_
  rotate_left
  · intro w'
    go_simp
    with_reducible rfl
  rotate_left
  · simp only [Act.put, List.setIfInBounds_toArray, List.set_cons_zero, List.set_cons_succ, i64_w, i32_w]
    rfl
  refine pure_ (i := 19) (N := some 0) (v := ?_) (a' := ?_) #[true, true, true, true, true, true, true, true, true, true, true, true, true, true, true, true, true, true, true, true] rfl rfl (by kernel_rfl) (fun _ _ _ h => h) (Or.inl ⟨by rfl, ?_⟩) ?_ ?_
  rotate_left
  · intro w'
    go_simp
    with_reducible rfl
  rotate_left
  · simp only [Act.put, List.setIfInBounds_toArray, List.set_cons_zero, List.set_cons_succ, i64_w, i32_w]
    rfl
  refine done_ (by kernel_rfl) ?_
  go_wp2
  go_ret
  exact ⟨rfl, below_then (below_then HB4.out HB4.out.size HB5.out) (Nat.le_trans HB4.out.size HB5.out.size) HB6.out⟩
theorem estreatlaw26_awake.calls (r : Bool) (w : World) (hG : ErrT w) (h : estreatlaw26_awake.f = some r) :
    Calls Tryz.prog 9 #[] w fun e w' => e = .returned (.bool r) ∧ Below w.heap.size w w' := by
  obtain rfl := Option.some.inj h
  exact m_awake w hG
end Go.Proofs.YtjmhiklmlgbifaaGreatDoor.PMan
end
section
namespace Go.Proofs.YtjmhiklmlgbifaaGreatDoor.PMan
open Go.RowKit Go.Proofs.YtjmhiklmlgbifaaGreatDoorW.PrintWords Go.Proofs.YtjmhiklmlgbifaaGreatDoorW.PrintLast Go.Proofs.YtjmhiklmlgbifaaGreatDoorW.PrintMore
set_option linter.unusedVariables false
set_option linter.unusedSimpArgs false
def laysM171_ren : Go.Shelf.Ren := ⟨fun | 171 => 52 | 243 => 85 | 246 => 115 | 283 => 134 | 284 => 135 | 285 => 136 | 286 => 137 | 129 => 147 | 317 => 146 | 318 => 148 | 319 => 149 | 320 => 150 | 337 => 156 | 338 => 157 | n => n, fun | 3 => 3 | 9 => 9 | 2 => 2 | 4 => 4 | 171 => 206 | 0 => 0 | 53 => 75 | 37 => 30 | 5 => 5 | 173 => 209 | 212 => 225 | 51 => 127 | 20 => 20 | 213 => 226 | 46 => 124 | 232 => 60 | 233 => 237 | n => n, fun | 17 => 1 | 18 => 2 | 19 => 3 | n => n⟩
theorem laysM171 : Go.Proofs.LaysM.n171 Tryz.prog laysM171_ren := {
  mixed := by kernel_rfl,
  f129 := Tryz.func147.trans (congrArg some (by kernel_rfl)),
  f171 := Tryz.func52.trans (congrArg some (by kernel_rfl)),
  f243 := Tryz.func85.trans (congrArg some (by kernel_rfl)),
  f246 := Tryz.func115.trans (congrArg some (by kernel_rfl)),
  f283 := Tryz.func134.trans (congrArg some (by kernel_rfl)),
  f284 := Tryz.func135.trans (congrArg some (by kernel_rfl)),
  f285 := Tryz.func136.trans (congrArg some (by kernel_rfl)),
  f286 := Tryz.func137.trans (congrArg some (by kernel_rfl)),
  f317 := Tryz.func146.trans (congrArg some (by kernel_rfl)),
  f318 := Tryz.func148.trans (congrArg some (by kernel_rfl)),
  f319 := Tryz.func149.trans (congrArg some (by kernel_rfl)),
  f320 := Tryz.func150.trans (congrArg some (by kernel_rfl)),
  f337 := Tryz.func156.trans (congrArg some (by kernel_rfl)),
  f338 := Tryz.func157.trans (congrArg some (by kernel_rfl)),
  t0 := Tryz.underlying0,
  a0 := Tryz.isAgg0,
  z0 := Tryz.sizeOf0,
  v0 := Tryz.zeroValue0,
  t2 := Tryz.underlying2,
  a2 := Tryz.isAgg2,
  z2 := Tryz.sizeOf2,
  v2 := Tryz.zeroValue2,
  t3 := Tryz.underlying3,
  a3 := Tryz.isAgg3,
  z3 := Tryz.sizeOf3,
  v3 := Tryz.zeroValue3,
  t4 := Tryz.underlying4,
  a4 := Tryz.isAgg4,
  z4 := Tryz.sizeOf4,
  v4 := Tryz.zeroValue4,
  t5 := Tryz.underlying5,
  a5 := Tryz.isAgg5,
  z5 := Tryz.sizeOf5,
  v5 := Tryz.zeroValue5,
  t9 := Tryz.underlying9,
  a9 := Tryz.isAgg9,
  z9 := Tryz.sizeOf9,
  v9 := Tryz.zeroValue9,
  t20 := Tryz.underlying20,
  a20 := Tryz.isAgg20,
  z20 := Tryz.sizeOf20,
  v20 := Tryz.zeroValue20,
  t37 := Tryz.underlying30,
  a37 := Tryz.isAgg30,
  z37 := Tryz.sizeOf30,
  v37 := Tryz.zeroValue30,
  t46 := Tryz.underlying124,
  a46 := Tryz.isAgg124,
  z46 := Tryz.sizeOf124,
  v46 := Tryz.zeroValue124,
  t51 := Tryz.underlying127,
  a51 := Tryz.isAgg127,
  z51 := Tryz.sizeOf127,
  v51 := Tryz.zeroValue127,
  t53 := Tryz.underlying75,
  a53 := Tryz.isAgg75,
  z53 := Tryz.sizeOf75,
  v53 := Tryz.zeroValue75,
  t171 := Tryz.underlying206,
  a171 := Tryz.isAgg206,
  z171 := Tryz.sizeOf206,
  v171 := Tryz.zeroValue206,
  t173 := Tryz.underlying209,
  a173 := Tryz.isAgg209,
  z173 := Tryz.sizeOf209,
  v173 := Tryz.zeroValue209,
  t212 := Tryz.underlying225,
  a212 := Tryz.isAgg225,
  z212 := Tryz.sizeOf225,
  v212 := Tryz.zeroValue225,
  t213 := Tryz.underlying226,
  a213 := Tryz.isAgg226,
  z213 := Tryz.sizeOf226,
  t232 := Tryz.underlying60,
  a232 := Tryz.isAgg60,
  z232 := Tryz.sizeOf60,
  v232 := Tryz.zeroValue60,
  t233 := Tryz.underlying237,
  a233 := Tryz.isAgg237,
  z233 := Tryz.sizeOf237,
  v233 := Tryz.zeroValue237,
  g17 := by kernel_rfl,
  g18 := by kernel_rfl,
  g19 := by kernel_rfl,
  i0 := by kernel_rfl,
  i2 := by kernel_rfl,
  i3 := by kernel_rfl,
  i4 := by kernel_rfl,
  i5 := by kernel_rfl,
  i9 := by kernel_rfl,
  i20 := by kernel_rfl,
  i37 := by kernel_rfl,
  i46 := by kernel_rfl,
  i51 := by kernel_rfl,
  i53 := by kernel_rfl,
  i171 := by kernel_rfl,
  i173 := by kernel_rfl,
  i212 := by kernel_rfl,
  i232 := by kernel_rfl,
  i233 := by kernel_rfl,
  m17 := by kernel_rfl,
  m18 := by kernel_rfl,
  m19 := by kernel_rfl }
/-- What the law asks of the world: both variables are as they were laid. -/
structure NamT (w : World) : Prop where
  err : ErrT w
  tab : Lib.TabIs Tryz.prog w "internal/strconv.uint64pow10" .u64 Lib.pow10Tab
theorem NamT.of_below {w W : World} (h : NamT w) (hb : Below w.heap.size w W) : NamT W :=
  ⟨ErrT.of_below h.err hb, Lib.tabBelow_of_tabIs h.tab W hb⟩
theorem n_awake.calls (r : Bool) (w : World) (hG : NamT w) (h : estreatlaw26_awake.f = some r) :
    Calls Tryz.prog 9 #[] w fun e w' => e = .returned (.bool r) ∧ Below w.heap.size w w' := estreatlaw26_awake.calls r w hG.err h
theorem n_itoa (n : Int) (h0 : -9223372036854775808 ≤ n) (h1 : n ≤ 9223372036854775807) (w : World) (hG : NamT w) :
    Calls Tryz.prog 52 #[.int .i64 n] w fun e w' => e = .returned (.string ⟨(Lib.itoa n).toArray⟩) ∧ Below w.heap.size w w' := by
  refine (Any.strconv_Itoa laysM171 n h0 h1 w hG.tab).mono ?_
  rintro e w' ⟨rfl, k, os, rfl⟩
  exact ⟨rfl, Lib.below_grow _ w (Nat.le_refl _) k os⟩
/-- The name that a whole number has. -/
def manifest_LogName.f (a0 : Int) : Option ByteArray := if -9223372036854775808 ≤ a0 ∧ a0 ≤ 9223372036854775807 then some (⟨#[108, 111, 103, 45]⟩ ++ ⟨(Lib.itoa a0).toArray⟩) else none
set_option maxHeartbeats 1600000 in
set_option maxRecDepth 100000 in
theorem manifest_LogName.calls (a0 : Int) (r : ByteArray) (w : World) (hG : NamT w) (h : manifest_LogName.f a0 = some r) :
    Calls Tryz.prog 15 #[.int .i64 a0] w fun e w' => e = .returned (.string r) ∧ Below w.heap.size w w' := by
  unfold manifest_LogName.f at h
  split at h
  · rename_i hn
    obtain rfl := Option.some.inj h
    clear h
    go_enter Tryz.func15, Tryz.ntmps15
    go_wp2_with (go_at_call 52; refine (n_itoa a0 hn.1 hn.2 _ hG).mono ?_; rintro e w1 ⟨rfl, hb⟩)
    · have hl := Lib.itoa_length_le a0 hn.1 hn.2
      omega
    · go_ret
      exact ⟨rfl, hb⟩
  · cases h
/-- The name that a whole number has. -/
def manifest_GroupName.f (a0 : Int) : Option ByteArray := if -9223372036854775808 ≤ a0 ∧ a0 ≤ 9223372036854775807 then some (⟨#[103, 114, 111, 117, 112, 45]⟩ ++ ⟨(Lib.itoa a0).toArray⟩) else none
set_option maxHeartbeats 1600000 in
set_option maxRecDepth 100000 in
theorem manifest_GroupName.calls (a0 : Int) (r : ByteArray) (w : World) (hG : NamT w) (h : manifest_GroupName.f a0 = some r) :
    Calls Tryz.prog 17 #[.int .i64 a0] w fun e w' => e = .returned (.string r) ∧ Below w.heap.size w w' := by
  unfold manifest_GroupName.f at h
  split at h
  · rename_i hn
    obtain rfl := Option.some.inj h
    clear h
    go_enter Tryz.func17, Tryz.ntmps17
    go_wp2_with (go_at_call 52; refine (n_itoa a0 hn.1 hn.2 _ hG).mono ?_; rintro e w1 ⟨rfl, hb⟩)
    · have hl := Lib.itoa_length_le a0 hn.1 hn.2
      omega
    · go_ret
      exact ⟨rfl, hb⟩
  · cases h
end Go.Proofs.YtjmhiklmlgbifaaGreatDoor.PMan
end
section
namespace Go.Proofs.YtjmhiklmlgbifaaGreatDoor.PMan
open Go.RowKit Go.Proofs.YtjmhiklmlgbifaaGreatDoorW.PrintWords Go.Proofs.YtjmhiklmlgbifaaGreatDoorW.PrintLast Go.Proofs.YtjmhiklmlgbifaaGreatDoorW.PrintMore
attribute [local go_sem] max2_int min2_int max_two min_two max_three min_three max_four min_four   -- for this text's walks alone
set_option linter.unusedVariables false
set_option linter.unusedSimpArgs false
def estreatref01_Same.l0 : Nat → List Int → List Int → Int → Option (Bool)
  | 0, _, _, _ => none
  | k + 1, x0, x1, x5 => if x5 < (x0.length : Int) then (if 0 ≤ x5 then (if x5 < (x1.length : Int) then (if (rd x0 x5) = (rd x1 x5) then (estreatref01_Same.l0 k x0 x1 (wrap64 (x5 + 1))) else (some false)) else (none)) else (none)) else (some true)
def estreatref01_Same.f (k : Nat) (l0 : List Int) (l1 : List Int) : Option (Bool) := if (l0.length : Int) = (l1.length : Int) then (estreatref01_Same.l0 k l0 l1 0) else (some false)
theorem estreatref01_Same.mono_l : ∀ k, (∀ y0 y1 y2, LeO (estreatref01_Same.l0 k y0 y1 y2) (estreatref01_Same.l0 (k + 1) y0 y1 y2))
  | 0 => fun _ _ _ r h => by simp [estreatref01_Same.l0] at h
  | k + 1 => by
    have ih0 := estreatref01_Same.mono_l k
    · intro y0 y1 y2
      unfold estreatref01_Same.l0
      repeat' first
      | (with_reducible exact ih0 _ _ _)
      | (with_reducible exact LeO.refl _)
      | (with_reducible exact LeO.none _)
      | (with_reducible refine LeO.ite ?_ ?_)
      | (with_reducible refine LeO.bind ?_ (fun _ => ?_))
      | exact ih0 _ _ _
      | exact LeO.none _
      | refine LeO.ite ?_ ?_
      | refine LeO.bind ?_ (fun _ => ?_)
theorem estreatref01_Same.mono : ∀ a0 a1 k, LeO (estreatref01_Same.f k a0 a1) (estreatref01_Same.f (k + 1) a0 a1) := by
  intro a0 a1 k
  have ih0 := estreatref01_Same.mono_l k
  unfold estreatref01_Same.f
  repeat' first
      | (with_reducible exact ih0 _ _ _)
      | (with_reducible exact LeO.refl _)
      | (with_reducible exact LeO.none _)
      | (with_reducible refine LeO.ite ?_ ?_)
      | (with_reducible refine LeO.bind ?_ (fun _ => ?_))
      | exact ih0 _ _ _
      | exact LeO.none _
      | refine LeO.ite ?_ ?_
      | refine LeO.bind ?_ (fun _ => ?_)
set_option maxHeartbeats 8000000 in
set_option maxRecDepth 100000 in
theorem estreatref01_Same.calls (k : Nat) (A0 : Option Addr) (c0 : Nat) (l0 : List Int) (A1 : Option Addr) (c1 : Nat) (l1 : List Int) (r : Bool) (w : World) (hr0 : Kd.C (Kd.int .u8) w A0 l0.length l0) (hc0 : l0.length ≤ c0) (hr1 : Kd.C (Kd.int .u8) w A1 l1.length l1) (hc1 : l1.length ≤ c1) (h : estreatref01_Same.f k l0 l1 = some r) :
    Calls Tryz.prog 12 #[.slice A0 l0.length c0, .slice A1 l1.length c1] w fun e w' => e = .returned (.bool r) ∧ Drawn0 w w' := by
  have HR0 := Aside0.mk hr0
  have HC0 := Aside0.mk hc0
  clear hr0 hc0
  have HR1 := Aside0.mk hr1
  have HC1 := Aside0.mk hc1
  clear hr1 hc1
  have H : (if (l0.length : Int) = (l1.length : Int) then (estreatref01_Same.l0 k l0 l1 0) else (some false)) = some r := h
  clear h
  by_cases c3 : (l0.length : Int) = (l1.length : Int)
  · rw [if_pos c3] at H
    have c3b0 : ((l0.length : Int) == (l1.length : Int)) = true := beq_iff_eq.mpr c3
    have c3b1 : ((l0.length : Int) != (l1.length : Int)) = false := bne_eq_false_iff_eq.mpr c3
    have c3b2 : (l0.length == l1.length) = true := by first | simpa using c3 | (simp at c3 ⊢; omega)
    clear c3
    have H' := Aside0.mk H
    clear H
    go_enter Tryz.func12, Tryz.ntmps12
    go_wp2
    repeat (go_quiet (fail); try go_wp2)
    go_loopg [5] k (fun kq v5 w' => ∃ (x5_1 : Int), v5 = .int .i64 x5_1 ∧ Aside0 (estreatref01_Same.l0 kq l0 l1 x5_1 = some r) ∧ Aside0 (kq ≤ k) ∧ Drawn0 w w')
    case atStart => exact ⟨(0), (by first | rfl | (simp; done) | (simp [*]; done)), H', ⟨Nat.le_refl _⟩, by repeat (first | exact Drawn0.refl _ | apply Drawn0.step)⟩
    case round =>
      clear H'
      try clear c1
      try clear p2
      try clear c3
      try clear c3b0
      try clear c3b1
      try clear c3b2
      obtain ⟨x5_1, rfl, HA, HK1, ⟨m1, rfl⟩⟩ := hrel
      cases gk with
      | zero => exact absurd HA.out (by simp [estreatref01_Same.l0])
      | succ k1 =>
        have H := HA.out
        clear HA
        simp only [estreatref01_Same.l0] at H
        by_cases c4 : x5_1 < (l0.length : Int)
        · rw [if_pos c4] at H
          have c4b0 : decide (x5_1 < (l0.length : Int)) = true := decide_eq_true c4
          clear c4
          by_cases c5 : 0 ≤ x5_1
          · rw [if_pos c5] at H
            have c5b0 : decide (0 ≤ x5_1) = true := decide_eq_true c5
            clear c5
            by_cases c6 : x5_1 < (l1.length : Int)
            · rw [if_pos c6] at H
              have c6b0 : decide (x5_1 < (l1.length : Int)) = true := decide_eq_true c6
              clear c6
              by_cases c7 : (rd l0 x5_1) = (rd l1 x5_1)
              · rw [if_pos c7] at H
                have c7b0 : ((rd l0 x5_1) == (rd l1 x5_1)) = true := beq_iff_eq.mpr c7
                have c7b1 : ((rd l0 x5_1) != (rd l1 x5_1)) = false := bne_eq_false_iff_eq.mpr c7
                clear c7
                have H' := Aside0.mk H
                clear H
                have p163 : 0 ≤ (x5_1 : Int) := of_decide_eq_true (by first | (with_reducible assumption) | assumption)
                have q163 : x5_1 < (l0.length : Int) := of_decide_eq_true (by first | (with_reducible assumption) | assumption)
                obtain ⟨ad163, e163, hx163_0⟩ := Kd.at_int HR0.out x5_1 p163 q163
                cases e163
                replace p163 := eq_true p163
                replace q163 := eq_true q163
                have p164 : 0 ≤ (x5_1 : Int) := of_decide_eq_true (by first | (with_reducible assumption) | assumption)
                have q164 : x5_1 < (l1.length : Int) := of_decide_eq_true (by first | (with_reducible assumption) | assumption)
                obtain ⟨ad164, e164, hx164_0⟩ := Kd.at_int HR1.out x5_1 p164 q164
                cases e164
                replace p164 := eq_true p164
                replace q164 := eq_true q164
                go_wp2
                repeat (go_quiet (fail); try go_wp2)
                go_roundg k1
                case measure => have := HK1.out; omega
                case rel => exact ⟨(wrap64 (x5_1 + 1)), (by first | rfl | (simp; done) | (simp [*]; done)), H', ⟨by have := HK1.out; omega⟩, by repeat (first | exact Drawn0.refl _ | apply Drawn0.step)⟩
              · rw [if_neg c7] at H
                have c7b0 : ((rd l0 x5_1) == (rd l1 x5_1)) = false := beq_eq_false_iff_ne.mpr c7
                have c7b1 : ((rd l0 x5_1) != (rd l1 x5_1)) = true := bne_iff_ne.mpr c7
                obtain rfl := Option.some.inj H
                have p163 : 0 ≤ (x5_1 : Int) := of_decide_eq_true (by first | (with_reducible assumption) | assumption)
                have q163 : x5_1 < (l0.length : Int) := of_decide_eq_true (by first | (with_reducible assumption) | assumption)
                obtain ⟨ad163, e163, hx163_0⟩ := Kd.at_int HR0.out x5_1 p163 q163
                cases e163
                replace p163 := eq_true p163
                replace q163 := eq_true q163
                have p164 : 0 ≤ (x5_1 : Int) := of_decide_eq_true (by first | (with_reducible assumption) | assumption)
                have q164 : x5_1 < (l1.length : Int) := of_decide_eq_true (by first | (with_reducible assumption) | assumption)
                obtain ⟨ad164, e164, hx164_0⟩ := Kd.at_int HR1.out x5_1 p164 q164
                cases e164
                replace p164 := eq_true p164
                replace q164 := eq_true q164
                go_wp2
                repeat (go_quiet (fail); try go_wp2)
                go_ret
                exact ⟨by first | rfl | (simp; done) | (simp [*]; done), by repeat (first | exact Drawn0.refl _ | apply Drawn0.step)⟩
            · rw [if_neg c6] at H
              exact absurd H (by simp)
          · rw [if_neg c5] at H
            exact absurd H (by simp)
        · rw [if_neg c4] at H
          have c4b0 : decide (x5_1 < (l0.length : Int)) = false := decide_eq_false c4
          clear c4
          obtain rfl := Option.some.inj H
          go_wp2
          repeat (go_quiet (fail); try go_wp2)
          go_ret
          exact ⟨by first | rfl | (simp; done) | (simp [*]; done), by repeat (first | exact Drawn0.refl _ | apply Drawn0.step)⟩
  · rw [if_neg c3] at H
    have c3b0 : ((l0.length : Int) == (l1.length : Int)) = false := beq_eq_false_iff_ne.mpr c3
    have c3b1 : ((l0.length : Int) != (l1.length : Int)) = true := bne_iff_ne.mpr c3
    have c3b2 : (l0.length == l1.length) = false := by first | simpa using c3 | (simp at c3 ⊢; omega)
    obtain rfl := Option.some.inj H
    go_enter Tryz.func12, Tryz.ntmps12
    go_wp2
    repeat (go_quiet (fail); try go_wp2)
    go_ret
    exact ⟨by first | rfl | (simp; done) | (simp [*]; done), by repeat (first | exact Drawn0.refl _ | apply Drawn0.step)⟩
end Go.Proofs.YtjmhiklmlgbifaaGreatDoor.PMan
end

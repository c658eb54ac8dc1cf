/- Texts of this proof, put into one, without what it does not use: MpN. -/
import Derived.Test.YtjmhiklmlgbifaaGreatDoorPB26
section
namespace Go.Proofs.YtjmhiklmlgbifaaGreatDoor.PMan
open Go.RowKit Go.Proofs.YtjmhiklmlgbifaaGreatDoorW.PrintWords Go.Proofs.YtjmhiklmlgbifaaGreatDoorW.PrintLast Go.Proofs.YtjmhiklmlgbifaaGreatDoorW.PrintMore
set_option linter.unusedVariables false
set_option linter.unusedSimpArgs false
theorem en_all (x : En) : ((enCells x).toArray).all (·.oneCell') = true := by
  simp [enCells, hashCells, Value.oneCell']
theorem entPutA_calls (x : En) (hs : x.s.length = 32) (hr : x.r.length = 32) (h0 : 0 ≤ x.g) (h1 : x.g ≤ 1048576) (w : World) : Calls Tryz.prog 34 #[.agg (enCells x).toArray] w fun e w' => ∃ v : Value, e = .returned v ∧ Kd.R (Kd.int .u8) 5 w' w.heap.size (fun _ => True) v (entP x) ∧ Below w.heap.size w w' := by
  rw [EC_of x hs hr, ← enP_of x hs hr]
  exact entPut_calls _ _ x.g h0 h1 w
set_option maxHeartbeats 8000000 in
set_option maxRecDepth 100000 in
theorem put_calls (k : Nat) (m : Mn) (As : Option Addr) (cs : Nat) (Ag : Option Addr) (cg : Nat) (Al : Option Addr) (cl : Nat) (Ae : Option Addr) (ce : Nat) (w : World) (t : List Int) (ec : Int) (hm : MnC w m As cs Ag cg Al cl Ae ce) (hok : MnOk m) (hls : m.schema.length < 1000000000) (hle : m.entries.length ≤ 1000000) (hl : (bodyP m).length < 1000000000) (hf : frame_Put.f k (bodyP m) = some (t, ec)) :
    Calls Tryz.prog 10 #[.agg (mnCells m As cs Ag cg Al cl Ae ce)] w fun e w' => ∃ v, e = .returned (.tuple #[v, .int .i64 (if checkP m = 0 then ec else checkP m)]) ∧ Kd.R (Kd.int .u8) 5 w' w.heap.size (fun _ => True) v (if checkP m = 0 then t else []) ∧ Below w.heap.size w w' := by
  have HM := Aside0.mk hm
  have HOK := Aside0.mk hok
  have HF := Aside0.mk hf
  have hbl : m.loose.length ≤ 9223372036854775807 := hm.l.2.1
  have hbe : m.entries.length ≤ 9223372036854775807 := hm.e.2.1
  have hbg : m.groups.length ≤ 9223372036854775807 := hm.g.2.1
  clear hm hok hf
  unfold mnCells
  obtain ⟨rc, hrc⟩ : ∃ rc : Int, rc = checkP m := ⟨_, rfl⟩
  rw [← hrc]
  have HRC := Aside0.mk hrc
  clear hrc
  obtain ⟨re, hre⟩ : ∃ re : Int, re = if rc = 0 then ec else rc := ⟨_, rfl⟩
  obtain ⟨rt, hrt⟩ : ∃ rt : List Int, rt = if rc = 0 then t else [] := ⟨_, rfl⟩
  rw [← hre, ← hrt]
  have HRE := Aside0.mk hre
  have HRT := Aside0.mk hrt
  clear hre hrt
  go_enter Tryz.func10, Tryz.ntmps10
  go_wp2_with fail
  have hx0 := heap_alloc_new w (.cells #[.int .i64 m.gen, .int .i64 m.next, .slice As m.schema.length cs, .int .i64 m.most, .slice Ag m.groups.length cg, .slice Al m.loose.length cl, .slice Ae m.entries.length ce] 27)
  have hb0 : Below w.heap.size w (w.alloc (.cells #[.int .i64 m.gen, .int .i64 m.next, .slice As m.schema.length cs, .int .i64 m.most, .slice Ag m.groups.length cg, .slice Al m.loose.length cl, .slice Ae m.entries.length ce] 27)) := below_alloc (Below.refl _ _) _
  generalize w.alloc (.cells #[.int .i64 m.gen, .int .i64 m.next, .slice As m.schema.length cs, .int .i64 m.most, .slice Ag m.groups.length cg, .slice Al m.loose.length cl, .slice Ae m.entries.length ce] 27) = W0 at *
  refine (check_calls m As cs Ag cg Al cl Ae ce W0 (HM.out.below hb0) hls hle).mono ?_
  rw [← HRC.out]
  rintro ev w1 ⟨rfl, hb1⟩
  have hbw : Below w.heap.size w w1.drew := below_drew (below_call hb0 hb1)
  have HX1 : Aside0 (w1.drew.heap[w.heap.size]? = some (.cells #[.int .i64 m.gen, .int .i64 m.next, .slice As m.schema.length cs, .int .i64 m.most, .slice Ag m.groups.length cg, .slice Al m.loose.length cl, .slice Ae m.entries.length ce] 27 (0, 0))) := Aside0.mk ((hb1.block _ (blk_lt hx0)).trans hx0)
  have HBw1 := Aside0.mk (below_call hb0 hb1)
  clear hb1 hb0 hx0 W0
  by_cases z : ¬ rc = 0
  · have z' : (rc != 0) = true := by simpa using z
    clear hbw
    have HZ := Aside0.mk z
    clear z
    go_wp2
    go_ret2
    have e1 := HRE.out
    have e2 := HRT.out
    rw [if_neg HZ.out] at e1 e2
    subst e1 e2
    exact ⟨_, rfl, Kd.R_nil _ _ _ _ _, HBw1.out⟩
  have z := Classical.not_not.1 z
  subst z
  have e1 := HRE.out
  have e2 := HRT.out
  rw [if_pos rfl] at e1 e2
  subst e1 e2
  clear HRE HRT
  have hR := right_of HRC.out.symm
  have HR := Aside0.mk hR
  have HG0 := Aside0.mk hR.gen
  have HG1 := Aside0.mk hR.next
  have HG3 := Aside0.mk hR.most
  have hgn := hR.gn
  have HBW := Aside0.mk hbw
  have HMC := Aside0.mk (HM.out.below hbw)
  clear hbw HBw1 hR
  go_wp2_with fail
  have q0 : w1.drew.cell? ⟨w.heap.size, 0, none⟩ = some (.int .i64 m.gen) := blk_cell HX1.out 0
  have q1 : w1.drew.cell? ⟨w.heap.size, 1, none⟩ = some (.int .i64 m.next) := blk_cell HX1.out 1
  have q3 : w1.drew.cell? ⟨w.heap.size, 3, none⟩ = some (.int .i64 m.most) := blk_cell HX1.out 3
  refine start_ (n := 13) (S := fun w' => w'.cell? ⟨w.heap.size, 0, none⟩ = some (.int .i64 m.gen) ∧ w'.cell? ⟨w.heap.size, 1, none⟩ = some (.int .i64 m.next) ∧ w'.cell? ⟨w.heap.size, 3, none⟩ = some (.int .i64 m.most)) (ds := []) #[false, false, false, false, false, false, false, false, false, false, false, false, false] (by kernel_rfl) rfl rfl ⟨q0, q1, q3⟩ (fun hHeld => ?_)
  generalize w1.drew = W2 at *
  refine pure_ (i := 0) (N := some 15) (v := ?_) (a' := ?_) #[true, false, false, false, false, false, false, false, false, false, false, false, false] rfl rfl (by kernel_rfl) (fun _ _ _ h => h) (Or.inl ⟨by rfl, ?_⟩) ?_ ?_
  rotate_left
  · intro w'
    go_simp
    with_reducible rfl
  rotate_left
  · simp only [Act.put, List.setIfInBounds_toArray, List.set_cons_zero, List.set_cons_succ, i64_w, i32_w]
    rfl
  refine pure_ (i := 4) (N := some 19) (v := ?_) (a' := ?_) #[true, false, false, false, true, false, false, false, false, false, false, false, false] rfl rfl (by kernel_rfl) (fun _ _ _ h => h) (Or.inl ⟨by rfl, ?_⟩) ?_ ?_
  rotate_left
  · intro w'
    go_simp
    with_reducible rfl
  rotate_left
  · simp only [Act.put, List.setIfInBounds_toArray, List.set_cons_zero, List.set_cons_succ, i64_w, i32_w]
    rfl
  refine pure_ (i := 8) (N := some 23) (v := ?_) (a' := ?_) #[true, false, false, false, true, false, false, false, true, false, false, false, false] rfl rfl (by kernel_rfl) (fun _ _ _ h => h) (Or.inl ⟨by rfl, ?_⟩) ?_ ?_
  rotate_left
  · intro w'
    go_simp
    with_reducible rfl
  rotate_left
  · simp only [Act.put, List.setIfInBounds_toArray, List.set_cons_zero, List.set_cons_succ, i64_w, i32_w]
    rfl
  refine take_ (i := 1) (N := some 16) (v := ?_) (a' := ?_) #[true, true, false, false, true, false, false, false, true, false, false, false, false] rfl rfl (by kernel_rfl) (fun _ _ _ h => h) (Or.inl ⟨by rfl, ?_⟩) hHeld ?_ ?_
  rotate_left
  · rintro w' ⟨s0, s1, s2⟩
    go_simp
    with_reducible rfl
  rotate_left
  · simp only [Act.put, List.setIfInBounds_toArray, List.set_cons_zero, List.set_cons_succ, i64_w, i32_w]
    rfl
  refine pure_ (i := 2) (N := some 17) (v := ?_) (a' := ?_) #[true, true, true, false, true, false, false, false, true, false, false, false, false] rfl rfl (by kernel_rfl) (fun _ _ _ h => h) (Or.inl ⟨by rfl, ?_⟩) ?_ ?_
  rotate_left
  · intro w'
    go_simp
    with_reducible rfl
  rotate_left
  · simp only [Act.put, List.setIfInBounds_toArray, List.set_cons_zero, List.set_cons_succ, i64_w, i32_w]
    rfl
  refine take_ (i := 5) (N := some 20) (v := ?_) (a' := ?_) #[true, true, true, false, true, true, false, false, true, false, false, false, false] rfl rfl (by kernel_rfl) (fun _ _ _ h => h) (Or.inl ⟨by rfl, ?_⟩) hHeld ?_ ?_
  rotate_left
  · rintro w' ⟨s0, s1, s2⟩
    go_simp
    with_reducible rfl
  rotate_left
  · simp only [Act.put, List.setIfInBounds_toArray, List.set_cons_zero, List.set_cons_succ, i64_w, i32_w]
    rfl
  refine pure_ (i := 6) (N := some 21) (v := ?_) (a' := ?_) #[true, true, true, false, true, true, true, false, true, false, false, false, false] rfl rfl (by kernel_rfl) (fun _ _ _ h => h) (Or.inl ⟨by rfl, ?_⟩) ?_ ?_
  rotate_left
  · intro w'
    go_simp
    with_reducible rfl
  rotate_left
  · simp only [Act.put, List.setIfInBounds_toArray, List.set_cons_zero, List.set_cons_succ, i64_w, i32_w]
    rfl
  refine take_ (i := 9) (N := some 24) (v := ?_) (a' := ?_) #[true, true, true, false, true, true, true, false, true, true, false, false, false] rfl rfl (by kernel_rfl) (fun _ _ _ h => h) (Or.inl ⟨by rfl, ?_⟩) hHeld ?_ ?_
  rotate_left
  · rintro w' ⟨s0, s1, s2⟩
    go_simp
    with_reducible rfl
  rotate_left
  · simp only [Act.put, List.setIfInBounds_toArray, List.set_cons_zero, List.set_cons_succ, i64_w, i32_w]
    rfl
  refine pure_ (i := 10) (N := some 25) (v := ?_) (a' := ?_) #[true, true, true, false, true, true, true, false, true, true, true, false, false] rfl rfl (by kernel_rfl) (fun _ _ _ h => h) (Or.inl ⟨by rfl, ?_⟩) ?_ ?_
  rotate_left
  · intro w'
    go_simp
    with_reducible rfl
  rotate_left
  · simp only [Act.put, List.setIfInBounds_toArray, List.set_cons_zero, List.set_cons_succ, i64_w, i32_w]
    rfl
  refine one_ (i := 3) (N := some 18) #[true, true, true, true, true, true, true, false, true, true, true, false, false] rfl rfl (by kernel_rfl) (by decide) (fun K hK => ?_)
  refine goes_ Tryz.func29 (by kernel_rfl) rfl #[.slice none 0 0, .int .u64 (IntKind.u64.wrap m.gen)] (by rfl) rfl rfl (by simp only [List.map_toArray, List.map_cons, List.map_nil]; rfl) ?_
  with_reducible refine (app_varW W2 W2 _ _ m.gen (App.nil W2) HG0.out.1 (by have := HG0.out.2; omega) (by decide)).mono ?_
  rintro e wa ⟨va, rfl, haa, hka⟩
  refine ⟨_, rfl, ?_⟩
  have HAa := Aside0.mk haa
  clear haa hka
  refine hK.out _ _ ⟨pw_cell_below HAa.out.bel q0, pw_cell_below HAa.out.bel q1, pw_cell_below HAa.out.bel q3⟩ (fun hHeld => ?_)
  clear hK K
  refine norm_ (a' := ?_) ?_ ?_
  rotate_left
  · show Act.put _ (some 18) _ = _
    simp only [Act.put, List.setIfInBounds_toArray, List.set_cons_zero, List.set_cons_succ, i64_w, i32_w]
    rfl
  refine one_ (i := 7) (N := some 22) #[true, true, true, true, true, true, true, true, true, true, true, false, false] rfl rfl (by kernel_rfl) (by decide) (fun K hK => ?_)
  refine goes_ Tryz.func29 (by kernel_rfl) rfl #[va, .int .u64 (IntKind.u64.wrap m.next)] (by rfl) rfl rfl (by simp only [List.map_toArray, List.map_cons, List.map_nil]; rfl) ?_
  with_reducible refine (app_varW W2 wa va _ m.next HAa.out HG1.out.1 (by have := HG1.out.2; omega) (by have := varP_len m.gen; rw [List.nil_append]; omega)).mono ?_
  rintro e wb ⟨vb, rfl, hab, hkb⟩
  refine ⟨_, rfl, ?_⟩
  have HAb := Aside0.mk hab
  clear hab hkb
  refine hK.out _ _ ⟨pw_cell_below HAb.out.bel q0, pw_cell_below HAb.out.bel q1, pw_cell_below HAb.out.bel q3⟩ (fun hHeld => ?_)
  clear hK K
  refine norm_ (a' := ?_) ?_ ?_
  rotate_left
  · show Act.put _ (some 22) _ = _
    simp only [Act.put, List.setIfInBounds_toArray, List.set_cons_zero, List.set_cons_succ, i64_w, i32_w]
    rfl
  refine one_ (i := 11) (N := some 26) #[true, true, true, true, true, true, true, true, true, true, true, true, false] rfl rfl (by kernel_rfl) (by decide) (fun K hK => ?_)
  refine goes_ Tryz.func29 (by kernel_rfl) rfl #[vb, .int .u64 (IntKind.u64.wrap m.most)] (by rfl) rfl rfl (by simp only [List.map_toArray, List.map_cons, List.map_nil]; rfl) ?_
  with_reducible refine (app_varW W2 wb vb _ m.most HAb.out (by have := HG3.out.1; omega) (by have := HG3.out.2; omega) (by have := varP_len m.gen; have := varP_len m.next; rw [List.nil_append, List.length_append]; omega)).mono ?_
  rintro e wc ⟨vc, rfl, hac, hkc⟩
  refine ⟨_, rfl, ?_⟩
  have HAc := Aside0.mk hac
  clear hac hkc
  refine hK.out _ _ ⟨pw_cell_below HAc.out.bel q0, pw_cell_below HAc.out.bel q1, pw_cell_below HAc.out.bel q3⟩ (fun hHeld => ?_)
  clear hK K
  refine norm_ (a' := ?_) ?_ ?_
  rotate_left
  · show Act.put _ (some 26) _ = _
    simp only [Act.put, List.setIfInBounds_toArray, List.set_cons_zero, List.set_cons_succ, i64_w, i32_w]
    rfl
  refine pure_ (i := 12) (N := some 5) (v := ?_) (a' := ?_) #[true, true, true, true, true, true, true, true, true, true, true, true, true] rfl rfl (by kernel_rfl) (fun _ _ _ h => h) (Or.inl ⟨by rfl, ?_⟩) ?_ ?_
  rotate_left
  · intro w'
    go_simp
    with_reducible rfl
  rotate_left
  · simp only [Act.put, List.setIfInBounds_toArray, List.set_cons_zero, List.set_cons_succ, i64_w, i32_w]
    rfl
  refine done_ (by kernel_rfl) ?_
  clear q0 q1 q3
  obtain ⟨y0, hy0⟩ : ∃ y, y = ([] ++ varP m.gen) ++ varP m.next ++ varP m.most := ⟨_, rfl⟩
  rw [← hy0] at HAc
  have hy0l : y0.length ≤ 30 := by have := varP_len m.gen; have := varP_len m.next; have := varP_len m.most; rw [hy0, List.nil_append, List.length_append, List.length_append]; omega
  have HY0 := Aside0.mk hy0
  clear hy0
  obtain ⟨T, hT⟩ : ∃ T, T = bodyP m := ⟨_, rfl⟩
  rw [← hT] at hl
  have HT := Aside0.mk hT
  have hT1 : y0 ++ (schemaF m.schema ++ (varP m.groups.length ++ (groupsF m.groups ++ tailF m))) = T := by rw [hT, HY0.out, bodyP]; simp only [List.append_assoc, List.nil_append]
  obtain ⟨y1, hy1⟩ : ∃ y, y = y0 ++ schemaF m.schema := ⟨_, rfl⟩
  obtain ⟨y2, hy2⟩ : ∃ y, y = y1 ++ varP m.groups.length := ⟨_, rfl⟩
  have hT2 : y2 ++ (groupsF (m.groups.drop 0) ++ tailF m) = T := by rw [← hT1, hy2, hy1, List.drop_zero]; simp only [List.append_assoc]
  have HT2 := Aside0.mk hT2
  have hy2l : y2.length < 1000000000 := by have := congrArg List.length hT2; rw [List.length_append] at this; omega
  have hy1l : y1.length < 1000000000 := by have := congrArg List.length hy2; rw [List.length_append] at this; omega
  have hsl : (schemaF m.schema).length < 1000000000 := by have := congrArg List.length hy1; rw [List.length_append] at this; omega
  have HY1 := Aside0.mk hy1
  have HY2 := Aside0.mk hy2
  clear hT hT1 hT2 hy1 hy2
  have hcx := (HAc.out.bel.block _ (blk_lt HX1.out)).trans HX1.out
  have q2 : wc.cell? ⟨w.heap.size, 2, none⟩ = some (.slice As m.schema.length cs) := blk_cell hcx 2
  clear hcx
  go_wp2_with (first | (go_at_call 30; refine (value_PutSchema.calls _ As cs m.schema _ wc (Kd.C_below HMC.out.s HAc.out.bel) HMC.out.hs (putSchema_p _ hls)).mono ?_; rintro e wd ⟨vd, rfl, hrd, hbd⟩; obtain ⟨Ad, cd, rfl, hld, hcd⟩ := Kd.R_reads hrd; have HAd := Aside0.mk (HAc.out.below hbd); have HCd := Aside0.mk hcd; clear hrd hbd hcd hld q2) | ((with_reducible refine gate_builtin (b := .append) (xs := #[.tmp 27, .tmp 30]) rfl ?_); at_builtin; refine app_rows rfl (.tmp 27) (.tmp 30) rfl vc y0 (schemaF m.schema) Ad (schemaF m.schema).length cd rfl rfl HAd.out HCd.out (by omega) ?_; intro ve we hae hke; rw [← HY1.out] at hae; have HAe := Aside0.mk hae; have hex := (HAe.out.bel.block _ (blk_lt HX1.out)).trans HX1.out; have HXe := Aside0.mk hex; have q4 : we.cell? ⟨w.heap.size, 4, none⟩ = some (.slice Ag m.groups.length cg) := blk_cell hex 4; clear hae hke hex) | (go_at_call 29; refine (app_var W2 we ve y1 m.groups.length HAe.out (by omega) (by omega) (by omega)).mono ?_; rintro e wf ⟨vf, rfl, haf, hkf⟩; rw [← HY2.out] at haf; have HAf := Aside0.mk haf; have hfx := (HAf.out.bel.block _ (blk_lt HX1.out)).trans HX1.out; have q4 : wf.cell? ⟨w.heap.size, 4, none⟩ = some (.slice Ag m.groups.length cg) := blk_cell hfx 4; clear haf hkf hfx))
  clear q4
  go_loopw [5, 41] (fun vb v41 w' => ∃ (i : Nat) (y : List Int), i ≤ m.groups.length ∧ v41 = .int .i64 i ∧ Aside0 (App W2 w' vb y) ∧ Aside0 (y ++ (groupsF (m.groups.drop i) ++ tailF m) = T)) (fun _ i _ => m.groups.length - (intOf i).toNat)
  case atStart => exact ⟨0, _, Nat.zero_le _, rfl, HAf, HT2⟩
  case round =>
    obtain ⟨i, y, hi, rfl, HY, HE⟩ := hrel
    by_cases hlt : i < m.groups.length
    · have hmem := getD_mem m.groups i zRf hlt
      have hhd := HR.out.hd HOK.out HMC.out.g _ hmem
      obtain ⟨hid0, hid1, _, hdl⟩ := groupsL_all HR.out.g _ hmem
      obtain ⟨b, o, ks, e1, hK, hcl, hmm⟩ := C_mid HMC.out.g zRf i hlt (by decide)
      have he := HE.out
      rw [drop_cons m.groups i zRf hlt, groupsF, groupF] at he
      generalize m.groups.getD i zRf = x at *
      obtain ⟨A, c, B, d, rfl, h32, hc, hC, hd, hD⟩ := kRf_open hK
      rw [kRf_sz] at hmm hcl
      have HID := Aside0.mk (show 0 ≤ x.id ∧ x.id ≤ 1099511627776 from ⟨hid0, by have := HG1.out.2; omega⟩)
      have HHD := Aside0.mk hhd
      have HCL := Aside0.mk hcl
      have HMM := Aside0.mk (range_below hmm HY.out.bel)
      have HC := Aside0.mk hC
      have HD := Aside0.mk hD
      have HCC := Aside0.mk hc
      have HSZ := Aside0.mk (show ((rfCells x A c B d).toArray).size = 37 from by rw [List.size_toArray]; exact hcl)
      have HDL := Aside0.mk (hd_len x.hd A c h32)
      have HB36 := Aside0.mk (rf_36 x A c B d h32)
      obtain ⟨y7, hy7⟩ : ∃ y7, y7 = y ++ varP x.id := ⟨_, rfl⟩
      obtain ⟨y9, hy9⟩ : ∃ y9, y9 = y7 ++ headP x.hd := ⟨_, rfl⟩
      obtain ⟨ya, hya⟩ : ∃ ya, ya = y9 ++ blobP x.dead := ⟨_, rfl⟩
      have hE : ya ++ (groupsF (m.groups.drop (i + 1)) ++ tailF m) = T := by rw [← he, hya, hy9, hy7]; simp only [List.append_assoc]
      have hyal : ya.length < 1000000000 := by have := congrArg List.length hE; rw [List.length_append] at this; omega
      have hy9l : y9.length < 1000000000 := by have := congrArg List.length hya; rw [List.length_append] at this; omega
      have hy7l : y7.length < 1000000000 := by have := congrArg List.length hy9; rw [List.length_append] at this; omega
      have hyl : y.length < 1000000000 := by have := congrArg List.length hy7; rw [List.length_append] at this; omega
      have hhl : (headP x.hd).length < 1000000000 := by have := congrArg List.length hy9; rw [List.length_append] at this; omega
      have HE9 := Aside0.mk hE
      have HQ7 := Aside0.mk hy7
      have HQ9 := Aside0.mk hy9
      have HQa := Aside0.mk hya
      have HDL2 := Aside0.mk hdl
      cases e1
      clear hE hy7 hy9 hya he HE hK hcl hmm hC hD hc hd h32 hid0 hid1 hhd hmem hdl
      go_wp2_with (first | (refine wpList_load_mid rfl 66 (.tmp 43) rfl b (o + i * 37) rfl (rfCells x A c B d) _ HMM.out Tryz.underlying66 rfl (by rw [HCL.out]; kernel_rfl) ?_) | (refine wpList_store_row rfl 66 (.tmp 7) (.tmp 44) rfl wr.heap.size ((rfCells x A c B d).toArray) rfl rfl 66 _ (heap_alloc_new wr _) (by rw [HSZ.out]; kernel_rfl) (by rw [HSZ.out]; rfl) (rf_all _ _ _ _ _) ?_; rw [World.setRow_alloc_new]; have hx := heap_alloc_new wr (.cells (rfCells x A c B d).toArray 66); have hbr : Below wr.heap.size wr (wr.alloc (.cells (rfCells x A c B d).toArray 66)) := below_alloc (Below.refl _ _) _; have HA6 := Aside0.mk (HY.out.below hbr); have HX6 := Aside0.mk hx; clear hx hbr; generalize (wr.alloc (.cells (rfCells x A c B d).toArray 66)) = W6 at *))
      have HAD : Aside0 (App W2 W6.drew u5 y) := Aside0.mk (HA6.out.below (below_drew (Below.refl _ _)))
      have HXD : Aside0 (W6.drew.heap[wr.heap.size]? = some (.cells (rfCells x A c B d).toArray 66 (0, 0))) := HX6
      have p0 : W6.drew.cell? ⟨wr.heap.size, 0, none⟩ = some (.int .i64 x.id) := (blk_cell HXD.out 0).trans rfl
      have hrD := range_of (pre := [.int .i64 x.id]) (cs := hdCells x.hd A c) (post := [.slice B x.dead.length d]) HXD.out 1 rfl
      refine start_ (n := 10) (S := fun w' => w'.cell? ⟨wr.heap.size, 0, none⟩ = some (.int .i64 x.id) ∧ w'.rangeAt wr.heap.size 1 (hdCells x.hd A c)) (ds := []) #[false, false, false, false, false, false, false, false, false, false] (by kernel_rfl) rfl rfl ⟨p0, hrD⟩ (fun hHeld => ?_)
      generalize W6.drew = WD at *
      refine pure_ (i := 0) (N := some 45) (v := ?_) (a' := ?_) #[true, false, false, false, false, false, false, false, false, false] rfl rfl (by kernel_rfl) (fun _ _ _ h => h) (Or.inl ⟨by rfl, ?_⟩) ?_ ?_
      rotate_left
      · intro w'
        go_simp
        with_reducible rfl
      rotate_left
      · simp only [Act.put, List.setIfInBounds_toArray, List.set_cons_zero, List.set_cons_succ, i64_w, i32_w]
        rfl
      refine pure_ (i := 1) (N := some 46) (v := ?_) (a' := ?_) #[true, true, false, false, false, false, false, false, false, false] rfl rfl (by kernel_rfl) (fun _ _ _ h => h) (Or.inl ⟨by rfl, ?_⟩) ?_ ?_
      rotate_left
      · intro w'
        go_simp
        with_reducible rfl
      rotate_left
      · simp only [Act.put, List.setIfInBounds_toArray, List.set_cons_zero, List.set_cons_succ, i64_w, i32_w]
        rfl
      refine pure_ (i := 5) (N := some 50) (v := ?_) (a' := ?_) #[true, true, false, false, false, true, false, false, false, false] rfl rfl (by kernel_rfl) (fun _ _ _ h => h) (Or.inl ⟨by rfl, ?_⟩) ?_ ?_
      rotate_left
      · intro w'
        go_simp
        with_reducible rfl
      rotate_left
      · simp only [Act.put, List.setIfInBounds_toArray, List.set_cons_zero, List.set_cons_succ, i64_w, i32_w]
        rfl
      refine take_ (i := 2) (N := some 47) (v := ?_) (a' := ?_) #[true, true, true, false, false, true, false, false, false, false] rfl rfl (by kernel_rfl) (fun _ _ _ h => h) (Or.inl ⟨by rfl, ?_⟩) hHeld ?_ ?_
      rotate_left
      · rintro w' ⟨s0, s1⟩
        go_simp
        with_reducible rfl
      rotate_left
      · simp only [Act.put, List.setIfInBounds_toArray, List.set_cons_zero, List.set_cons_succ, i64_w, i32_w]
        rfl
      refine pure_ (i := 3) (N := some 48) (v := ?_) (a' := ?_) #[true, true, true, true, false, true, false, false, false, false] rfl rfl (by kernel_rfl) (fun _ _ _ h => h) (Or.inl ⟨by rfl, ?_⟩) ?_ ?_
      rotate_left
      · intro w'
        go_simp
        with_reducible rfl
      rotate_left
      · simp only [Act.put, List.setIfInBounds_toArray, List.set_cons_zero, List.set_cons_succ, i64_w, i32_w]
        rfl
      refine take_ (i := 6) (N := some 51) (v := ?_) (a' := ?_) #[true, true, true, true, false, true, true, false, false, false] rfl rfl (by kernel_rfl) (fun _ _ _ h => h) (Or.inl ⟨by rfl, ?_⟩) hHeld ?_ ?_
      rotate_left
      · rintro w' ⟨s0, s1⟩
        refine exec_load_mid 64 (.tmp 50) ?_ wr.heap.size 1 ?_ (hdCells x.hd A c) _ s1 Tryz.underlying64 rfl ?_
        · rfl
        · rfl
        · rw [HDL.out]; kernel_rfl
      rotate_left
      · simp only [Act.put, List.setIfInBounds_toArray, List.set_cons_zero, List.set_cons_succ, i64_w, i32_w]
        rfl
      refine one_ (i := 4) (N := some 49) #[true, true, true, true, true, true, true, false, false, false] rfl rfl (by kernel_rfl) (by decide) (fun K hK => ?_)
      refine goes_ Tryz.func29 (by kernel_rfl) rfl #[u5, .int .u64 (IntKind.u64.wrap x.id)] (by rfl) rfl rfl (by simp only [List.map_toArray, List.map_cons, List.map_nil]; rfl) ?_
      with_reducible refine (app_varW W2 WD _ y x.id HAD.out HID.out.1 (by have := HID.out.2; omega) (by omega)).mono ?_
      rintro e w7 ⟨v7, rfl, ha7, hk7⟩
      refine ⟨_, rfl, ?_⟩
      rw [← HQ7.out] at ha7
      have HA7 := Aside0.mk ha7
      have HX7 := Aside0.mk (Stay.block HAD.out hk7.kept HXD.out (by decide))
      have hr7 := range_of (pre := [.int .i64 x.id]) (cs := hdCells x.hd A c) (post := [.slice B x.dead.length d]) HX7.out 1 rfl
      clear ha7 hk7
      refine hK.out _ _ ⟨(blk_cell HX7.out 0).trans rfl, hr7⟩ (fun hHeld => ?_)
      clear hK K
      refine norm_ (a' := ?_) ?_ ?_
      rotate_left
      · show Act.put _ (some 49) _ = _
        simp only [Act.put, List.setIfInBounds_toArray, List.set_cons_zero, List.set_cons_succ, i64_w, i32_w]
        rfl
      refine one_ (i := 7) (N := some 52) #[true, true, true, true, true, true, true, true, false, false] rfl rfl (by kernel_rfl) (by decide) (fun K hK => ?_)
      refine goes_ Tryz.func31 (by kernel_rfl) rfl #[.agg (hdCells x.hd A c).toArray] (by rfl) rfl rfl (by simp only [List.map_toArray, List.map_cons, List.map_nil]; rfl) ?_
      with_reducible refine (putHeader_calls x.hd A c w7 HHD.out HCC.out (Kd.C_below HC.out HA7.out.bel) (by omega)).mono ?_
      rintro e w8 ⟨v8, rfl, hr8, hb8⟩
      refine ⟨_, rfl, ?_⟩
      obtain ⟨A8, c8, rfl, hl8, hc8⟩ := Kd.R_reads hr8
      have HA8 := Aside0.mk (HA7.out.below hb8)
      have HX8 := Aside0.mk ((hb8.block _ (blk_lt HX7.out)).trans HX7.out)
      have HC8 := Aside0.mk hc8
      have hr9 := range_of (pre := [.int .i64 x.id]) (cs := hdCells x.hd A c) (post := [.slice B x.dead.length d]) HX8.out 1 rfl
      clear hr8 hb8 hc8 hl8
      refine hK.out _ _ ⟨(blk_cell HX8.out 0).trans rfl, hr9⟩ (fun hHeld => ?_)
      clear hK K
      refine norm_ (a' := ?_) ?_ ?_
      rotate_left
      · show Act.put _ (some 52) _ = _
        simp only [Act.put, List.setIfInBounds_toArray, List.set_cons_zero, List.set_cons_succ, i64_w, i32_w]
        rfl
      refine one_ (i := 8) (N := some 53) #[true, true, true, true, true, true, true, true, true, false] rfl rfl (by kernel_rfl) (by decide) (fun K hK => ?_)
      refine app_rows_step (by rfl) (.tmp 49) (.tmp 52) (by rfl) v7 y7 (headP x.hd) A8 (headP x.hd).length c8 rfl rfl HA8.out HC8.out (by omega) ?_
      intro v9 w9 ha9 hk9
      rw [← HQ9.out] at ha9
      have HA9 := Aside0.mk ha9
      have HX9 := Aside0.mk (Stay.block HA8.out hk9.kept HX8.out (by decide))
      have hra := range_of (pre := [.int .i64 x.id]) (cs := hdCells x.hd A c) (post := [.slice B x.dead.length d]) HX9.out 1 rfl
      clear ha9 hk9
      refine hK.out _ _ ⟨(blk_cell HX9.out 0).trans rfl, hra⟩ (fun hHeld => ?_)
      clear hK K
      refine norm_ (a' := ?_) ?_ ?_
      rotate_left
      · show Act.put _ (some 53) _ = _
        simp only [Act.put, List.setIfInBounds_toArray, List.set_cons_zero, List.set_cons_succ, i64_w, i32_w]
        rfl
      refine pure_ (i := 9) (N := some 5) (v := ?_) (a' := ?_) #[true, true, true, true, true, true, true, true, true, true] rfl rfl (by kernel_rfl) (fun _ _ _ h => h) (Or.inl ⟨by rfl, ?_⟩) ?_ ?_
      rotate_left
      · intro w'
        go_simp
        with_reducible rfl
      rotate_left
      · simp only [Act.put, List.setIfInBounds_toArray, List.set_cons_zero, List.set_cons_succ, i64_w, i32_w]
        rfl
      refine done_ (by kernel_rfl) ?_
      clear p0 hrD
      have p36 : w9.cell? ⟨wr.heap.size, 36, none⟩ = some (.slice B x.dead.length d) := (blk_cell HX9.out 36).trans HB36.out
      go_wp2_with (go_at_call 32; refine (app_blob W2 w9 v9 y9 B x.dead.length d x.dead rfl HA9.out (fun W hs => Stay.old_C HA9.out hs HD.out) (by omega) (by have := HDL2.out; omega)).mono ?_; rintro e wz ⟨vz, rfl, haz, hkz⟩; rw [← HQa.out] at haz; have HAz := Aside0.mk haz; clear haz hkz)
      go_roundw
      case rel => exact ⟨i + 1, ya, by omega, by go_num, HAz, HE9⟩
      case measure => simp [intOf]; omega
    · obtain rfl : i = m.groups.length := by omega
      have he := HE.out
      rw [List.drop_eq_nil_of_le (Nat.le_refl _), groupsF, List.nil_append, tailF] at he
      obtain ⟨y5, hy5⟩ : ∃ y5, y5 = y ++ rowsP m.loose := ⟨_, rfl⟩
      obtain ⟨y6, hy6⟩ : ∃ y6, y6 = y5 ++ varP m.entries.length := ⟨_, rfl⟩
      have hE : y6 ++ entriesF (m.entries.drop 0) = T := by rw [← he, hy6, hy5, List.drop_zero]; simp only [List.append_assoc]
      have hy6l : y6.length < 1000000000 := by have := congrArg List.length hE; rw [List.length_append] at this; omega
      have hy5l : y5.length < 1000000000 := by have := congrArg List.length hy6; rw [List.length_append] at this; omega
      have hy5m : (y ++ rowsP m.loose).length < 1000000000 := by rw [← hy5]; exact hy5l
      have HE6 := Aside0.mk hE
      have HQ5 := Aside0.mk hy5
      have HQ6 := Aside0.mk hy6
      clear hE hy5 hy6 he HE
      have HAE : Aside0 (App W2 wr.drew u5 y) := Aside0.mk (HY.out.below (below_drew (Below.refl _ _)))
      have hxe := (HAE.out.bel.block _ (blk_lt HX1.out)).trans HX1.out
      have q5 : wr.drew.cell? ⟨w.heap.size, 5, none⟩ = some (.slice Al m.loose.length cl) := blk_cell hxe 5
      have q6 : wr.drew.cell? ⟨w.heap.size, 6, none⟩ = some (.slice Ae m.entries.length ce) := blk_cell hxe 6
      have Q5 := Aside0.mk (show W2.cell? ⟨w.heap.size, 5, none⟩ = some (.slice Al m.loose.length cl) from blk_cell HX1.out 5)
      have Q6 := Aside0.mk (show W2.cell? ⟨w.heap.size, 6, none⟩ = some (.slice Ae m.entries.length ce) from blk_cell HX1.out 6)
      clear hxe
      go_wp2_with fail
      refine start_ (n := 10) (S := fun w' => w'.cell? ⟨w.heap.size, 5, none⟩ = some (.slice Al m.loose.length cl) ∧ w'.cell? ⟨w.heap.size, 6, none⟩ = some (.slice Ae m.entries.length ce)) (ds := []) #[false, false, false, false, false, false, false, false, false, false] (by kernel_rfl) rfl rfl ⟨q5, q6⟩ (fun hHeld => ?_)
      generalize wr.drew = WE at *
      refine pure_ (i := 0) (N := some 59) (v := ?_) (a' := ?_) #[true, false, false, false, false, false, false, false, false, false] rfl rfl (by kernel_rfl) (fun _ _ _ h => h) (Or.inl ⟨by rfl, ?_⟩) ?_ ?_
      rotate_left
      · intro w'
        go_simp
        with_reducible rfl
      rotate_left
      · simp only [Act.put, List.setIfInBounds_toArray, List.set_cons_zero, List.set_cons_succ, i64_w, i32_w]
        rfl
      refine pure_ (i := 1) (N := some 60) (v := ?_) (a' := ?_) #[true, true, false, false, false, false, false, false, false, false] rfl rfl (by kernel_rfl) (fun _ _ _ h => h) (Or.inl ⟨by rfl, ?_⟩) ?_ ?_
      rotate_left
      · intro w'
        go_simp
        with_reducible rfl
      rotate_left
      · simp only [Act.put, List.setIfInBounds_toArray, List.set_cons_zero, List.set_cons_succ, i64_w, i32_w]
        rfl
      refine pure_ (i := 4) (N := some 63) (v := ?_) (a' := ?_) #[true, true, false, false, true, false, false, false, false, false] rfl rfl (by kernel_rfl) (fun _ _ _ h => h) (Or.inl ⟨by rfl, ?_⟩) ?_ ?_
      rotate_left
      · intro w'
        go_simp
        with_reducible rfl
      rotate_left
      · simp only [Act.put, List.setIfInBounds_toArray, List.set_cons_zero, List.set_cons_succ, i64_w, i32_w]
        rfl
      refine take_ (i := 2) (N := some 61) (v := ?_) (a' := ?_) #[true, true, true, false, true, false, false, false, false, false] rfl rfl (by kernel_rfl) (fun _ _ _ h => h) (Or.inl ⟨by rfl, ?_⟩) hHeld ?_ ?_
      rotate_left
      · rintro w' ⟨s0, s1⟩
        go_simp
        with_reducible rfl
      rotate_left
      · simp only [Act.put, List.setIfInBounds_toArray, List.set_cons_zero, List.set_cons_succ, i64_w, i32_w]
        rfl
      refine take_ (i := 5) (N := some 64) (v := ?_) (a' := ?_) #[true, true, true, false, true, true, false, false, false, false] rfl rfl (by kernel_rfl) (fun _ _ _ h => h) (Or.inl ⟨by rfl, ?_⟩) hHeld ?_ ?_
      rotate_left
      · rintro w' ⟨s0, s1⟩
        go_simp
        with_reducible rfl
      rotate_left
      · simp only [Act.put, List.setIfInBounds_toArray, List.set_cons_zero, List.set_cons_succ, i64_w, i32_w]
        rfl
      refine pure_ (i := 6) (N := some 65) (v := ?_) (a' := ?_) #[true, true, true, false, true, true, true, false, false, false] rfl rfl (by kernel_rfl) (fun _ _ _ h => h) (Or.inl ⟨by rfl, ?_⟩) ?_ ?_
      rotate_left
      · intro w'
        go_simp
        with_reducible rfl
      rotate_left
      · simp only [Act.put, List.setIfInBounds_toArray, List.set_cons_zero, List.set_cons_succ, i64_w, i32_w]
        rfl
      refine pure_ (i := 7) (N := some 66) (v := ?_) (a' := ?_) #[true, true, true, false, true, true, true, true, false, false] rfl rfl (by kernel_rfl) (fun _ _ _ h => h) (Or.inl ⟨by rfl, ?_⟩) ?_ ?_
      rotate_left
      · intro w'
        go_simp
        with_reducible rfl
      rotate_left
      · simp only [Act.put, List.setIfInBounds_toArray, List.set_cons_zero, List.set_cons_succ, i64_w, i32_w]
        rfl
      refine one_ (i := 3) (N := some 62) #[true, true, true, true, true, true, true, true, false, false] rfl rfl (by kernel_rfl) (by decide) (fun K hK => ?_)
      refine goes_ Tryz.func33 (by kernel_rfl) rfl #[u5, .slice Al m.loose.length cl] (by rfl) rfl rfl (by simp only [List.map_toArray, List.map_cons, List.map_nil]; rfl) ?_
      with_reducible refine (app_rowsP W2 WE _ y Al cl m.loose HAE.out HMC.out.l HOK.out.l (by omega)).mono ?_
      rintro e wf ⟨vf, rfl, haf⟩
      refine ⟨_, rfl, ?_⟩
      rw [← HQ5.out] at haf
      have HAf := Aside0.mk haf
      clear haf
      refine hK.out _ _ ⟨pw_cell_below HAf.out.bel Q5.out, pw_cell_below HAf.out.bel Q6.out⟩ (fun hHeld => ?_)
      clear hK K
      refine norm_ (a' := ?_) ?_ ?_
      rotate_left
      · show Act.put _ (some 62) _ = _
        simp only [Act.put, List.setIfInBounds_toArray, List.set_cons_zero, List.set_cons_succ, i64_w, i32_w]
        rfl
      refine one_ (i := 8) (N := some 67) #[true, true, true, true, true, true, true, true, true, false] rfl rfl (by kernel_rfl) (by decide) (fun K hK => ?_)
      refine goes_ Tryz.func29 (by kernel_rfl) rfl #[vf, .int .u64 (IntKind.u64.wrap (m.entries.length : Int))] (by rfl) rfl rfl (by simp only [List.map_toArray, List.map_cons, List.map_nil]; rfl) ?_
      with_reducible refine (app_varW W2 wf vf y5 m.entries.length HAf.out (by omega) (by omega) (by omega)).mono ?_
      rintro e wg ⟨vg, rfl, hag, hkg⟩
      refine ⟨_, rfl, ?_⟩
      rw [← HQ6.out] at hag
      have HAg := Aside0.mk hag
      clear hag hkg
      refine hK.out _ _ ⟨pw_cell_below HAg.out.bel Q5.out, pw_cell_below HAg.out.bel Q6.out⟩ (fun hHeld => ?_)
      clear hK K
      refine norm_ (a' := ?_) ?_ ?_
      rotate_left
      · show Act.put _ (some 67) _ = _
        simp only [Act.put, List.setIfInBounds_toArray, List.set_cons_zero, List.set_cons_succ, i64_w, i32_w]
        rfl
      refine pure_ (i := 9) (N := some 5) (v := ?_) (a' := ?_) #[true, true, true, true, true, true, true, true, true, true] rfl rfl (by kernel_rfl) (fun _ _ _ h => h) (Or.inl ⟨by rfl, ?_⟩) ?_ ?_
      rotate_left
      · intro w'
        go_simp
        with_reducible rfl
      rotate_left
      · simp only [Act.put, List.setIfInBounds_toArray, List.set_cons_zero, List.set_cons_succ, i64_w, i32_w]
        rfl
      refine done_ (by kernel_rfl) ?_
      clear q5 q6
      rw [u64_small (m.entries.length : Int) (by omega) (by omega)]
      have q6 : wg.cell? ⟨w.heap.size, 6, none⟩ = some (.slice Ae m.entries.length ce) := pw_cell_below HAg.out.bel Q6.out
      go_wp2_with fail
      clear q6
      go_loopw [5, 71] (fun vb v71 w' => ∃ (i : Nat) (y : List Int), i ≤ m.entries.length ∧ v71 = .int .i64 i ∧ Aside0 (App W2 w' vb y) ∧ Aside0 (y ++ entriesF (m.entries.drop i) = T)) (fun _ i _ => m.entries.length - (intOf i).toNat)
      case atStart => exact ⟨0, _, Nat.zero_le _, rfl, HAg, HE6⟩
      case round =>
        obtain ⟨i, z, hi, rfl, HZ, HE⟩ := hrel
        by_cases hlt : i < m.entries.length
        · have hmem := getD_mem m.entries i zEn hlt
          obtain ⟨hg0, hg1⟩ := entriesL_all HR.out.e _ hmem
          obtain ⟨b, o, ks, e1, hK, hcl, hmm⟩ := C_mid HMC.out.e zEn i hlt (by decide)
          have he := HE.out
          rw [drop_cons m.entries i zEn hlt, entriesF] at he
          generalize m.entries.getD i zEn = x at *
          obtain ⟨rfl, hs, hr⟩ := kEn_open hK
          rw [kEn_sz] at hmm hcl
          have HS := Aside0.mk hs
          have HRR := Aside0.mk hr
          have HG := Aside0.mk (And.intro hg0 hg1)
          have HCL := Aside0.mk hcl
          have HMM := Aside0.mk (range_below hmm HZ.out.bel)
          have HSZ := Aside0.mk (show ((enCells x).toArray).size = 65 from by rw [List.size_toArray]; exact hcl)
          obtain ⟨z7, hz7⟩ : ∃ z7, z7 = z ++ entP x := ⟨_, rfl⟩
          have hE : z7 ++ entriesF (m.entries.drop (i + 1)) = T := by rw [← he, hz7]; simp only [List.append_assoc]
          have hz7l : z7.length < 1000000000 := by have := congrArg List.length hE; rw [List.length_append] at this; omega
          have hzl : z.length + (entP x).length < 1000000000 := by have := congrArg List.length hz7; rw [List.length_append] at this; omega
          have HE7 := Aside0.mk hE
          have HQ7 := Aside0.mk hz7
          cases e1
          clear hE hz7 he HE hK hcl hmm hs hr hg0 hg1 hmem
          go_wp2_with (first | (refine wpList_load_mid rfl 81 (.tmp 73) rfl b (o + i * 65) rfl (enCells x) _ HMM.out Tryz.underlying81 rfl (by rw [HCL.out]; kernel_rfl) ?_) | (refine wpList_store_row rfl 81 (.tmp 9) (.tmp 74) rfl wr.heap.size ((enCells x).toArray) rfl rfl 81 _ (heap_alloc_new wr _) (by rw [HSZ.out]; kernel_rfl) (by rw [HSZ.out]; rfl) (en_all _) ?_; rw [World.setRow_alloc_new]; have hx := heap_alloc_new wr (.cells (enCells x).toArray 81); have hbr : Below wr.heap.size wr (wr.alloc (.cells (enCells x).toArray 81)) := below_alloc (Below.refl _ _) _; have HA6 := Aside0.mk (HZ.out.below hbr); have HX6 := Aside0.mk hx; clear hx hbr; generalize (wr.alloc (.cells (enCells x).toArray 81)) = W6 at *) | (refine wpList_load_row rfl 81 (.tmp 9) rfl wr.heap.size rfl 81 ((enCells x).toArray) (0, 0) _ HX6.out Tryz.underlying81 rfl (by rw [HSZ.out]; kernel_rfl) ?_) | (go_at_call 34; refine (entPutA_calls x HS.out HRR.out HG.out.1 HG.out.2 W6).mono ?_; rintro e w8 ⟨v8, rfl, hr8, hb8⟩; obtain ⟨A8, c8, rfl, hl8, hc8⟩ := Kd.R_reads hr8; have HA8 := Aside0.mk (HA6.out.below hb8); have HC8 := Aside0.mk hc8; clear hr8 hb8 hc8 hl8) | ((with_reducible refine gate_builtin (b := .append) (xs := #[.tmp 75, .tmp 77]) rfl ?_); at_builtin; refine app_rows rfl (.tmp 75) (.tmp 77) rfl u5 z (entP x) A8 (entP x).length c8 rfl rfl HA8.out HC8.out (by omega) ?_; intro v9 w9 ha9 hk9; rw [← HQ7.out] at ha9; have HA9 := Aside0.mk ha9; clear ha9 hk9))
          go_roundw
          case rel => exact ⟨i + 1, z7, by omega, by go_num, HA9, HE7⟩
          case measure => simp [intOf]; omega
        · obtain rfl : i = m.entries.length := by omega
          have he := HE.out
          rw [List.drop_eq_nil_of_le (Nat.le_refl _), entriesF, List.append_nil] at he
          subst he
          have HTT := HT
          obtain ⟨Az, cz, rfl, hlz, hcz⟩ := Kd.R_reads HZ.out.own
          have HCZ := Aside0.mk hcz
          have HLZ := Aside0.mk hlz
          have HF2 := Aside0.mk (show frame_Put.f k z = some (rt, re) by rw [HT.out]; exact HF.out)
          clear hcz hlz
          go_wp2_with (go_at_call 35; refine (frame_Put.calls k Az cz z rt re wr HCZ.out HLZ.out HF2.out).mono ?_; rintro e wk ⟨vk, rfl, hrk, hbk⟩; have HOk := Aside0.mk hrk; have HBk := Aside0.mk hbk; clear hrk hbk)
          go_ret2
          have z1 := HBW.out.size
          have z2 := HZ.out.bel.size
          exact ⟨_, rfl, Kd.R_lower HOk.out (by omega), HBW.out.trans ((HZ.out.bel.mono z1).trans (HBk.out.mono (by omega)))⟩
end Go.Proofs.YtjmhiklmlgbifaaGreatDoor.PMan
end

/- Texts of this proof, put into one, without what it does not use: MyF. -/
import Derived.Test.YtjmhiklmlgbifaaGreatDoorPB43
section
namespace Go.Proofs.YtjmhiklmlgbifaaGreatDoor.PMan
open Go.RowKit Go.Proofs.YtjmhiklmlgbifaaGreatDoorW.PrintWords Go.Proofs.YtjmhiklmlgbifaaGreatDoorW.PrintLast Go.Proofs.YtjmhiklmlgbifaaGreatDoorW.PrintMore
open Go.Proofs.YtjmhiklmlgbifaaGreatDoor.CrcMath Go.Proofs.YtjmhiklmlgbifaaGreatDoor.FrameMath
set_option linter.unusedVariables false
set_option linter.unusedSimpArgs false
theorem back_facts (m : Mn) (hT : MnT m) (hL : MnL m) (hs : Small m) (hck : checkP m = 0) : readM (bodyP m) = m ∧ goodM (bodyP m) := by
  have hbl := bodyP_small m hs hL
  refine parse_put m hck (fun x hx v hv => hT.l x hx v hv) (fun g hg => ⟨(hL.g g hg).1, fun c hc => ⟨((hT.g g hg).2.2 c hc).1, ((hT.g g hg).2.2 c hc).2.1, (hL.g g hg).2 c hc⟩⟩) hL.e (by have := hs.en; omega) (bodyP_byte m hT) (by omega)
set_option maxHeartbeats 16000000 in
set_option maxRecDepth 100000 in
theorem lawBack_calls (m : Mn) (n : Int) (As : Option Addr) (cs : Nat) (Ag : Option Addr) (cg : Nat) (Al : Option Addr) (cl : Nat) (Ae : Option Addr) (ce : Nat) (w : World) (hG : ErrT w) (hm : MnC w m As cs Ag cg Al cl Ae ce) (ht : MnT m) :
    Calls Tryz.prog 5 #[.agg (mnCells m As cs Ag cg Al cl Ae ce), .int .i64 n] w fun e w' => e = .returned (.bool true) ∧ Below w.heap.size w w' := by
  have HM := Aside0.mk hm
  have HT := Aside0.mk ht
  have HN := Aside0.mk hG
  clear hm ht hG
  unfold mnCells
  go_enter Tryz.func5, Tryz.ntmps5
  go_wp2_with fail
  have hx0 := heap_alloc_new w (.cells #[.int .i64 m.gen, .int .i64 m.next, .slice As m.schema.length cs, .int .i64 m.most, .slice Ag m.groups.length cg, .slice Al m.loose.length cl, .slice Ae m.entries.length ce] 27)
  have hb0 : Below w.heap.size w (w.alloc (.cells #[.int .i64 m.gen, .int .i64 m.next, .slice As m.schema.length cs, .int .i64 m.most, .slice Ag m.groups.length cg, .slice Al m.loose.length cl, .slice Ae m.entries.length ce] 27)) := below_alloc (Below.refl _ _) _
  generalize w.alloc (.cells #[.int .i64 m.gen, .int .i64 m.next, .slice As m.schema.length cs, .int .i64 m.most, .slice Ag m.groups.length cg, .slice Al m.loose.length cl, .slice Ae m.entries.length ce] 27) = W0 at *
  refine (great_calls m As cs Ag cg Al cl Ae ce W0 (HM.out.below hb0)).mono ?_
  rintro e w1 ⟨g, rfl, hg, hb1⟩
  have HB1 := Aside0.mk (below_call hb0 hb1)
  have HX1 := Aside0.mk ((hb1.block _ (blk_lt hx0)).trans hx0)
  have HN1 := Aside0.mk (HN.out.of_below HB1.out)
  have HGG := Aside0.mk hg
  clear hb1 hb0 hx0 W0 hg
  cases g with
  | true =>
    go_wp2_with (go_at_call 9; (with_reducible refine (estreatlaw26_awake.calls true _ HN1.out rfl).mono ?_); rintro e w2 ⟨rfl, hb2⟩)
    go_ret
    exact ⟨rfl, below_call HB1.out hb2⟩
  | false =>
  have hsm := HGG.out rfl
  have hML : MnL m := HM.out.len
  have hok := HT.out.ok hsm
  have hbl := bodyP_small m hsm hML
  have hby := bodyP_byte m HT.out
  have hp := put_is (bodyP m) hby (by omega) 5 (Nat.le_refl _)
  have hls : m.schema.length < 1000000000 := by have := hsm.s; omega
  have hle : m.entries.length ≤ 1000000 := by have := hsm.en; omega
  have hbl2 : (bodyP m).length < 1000000000 := by omega
  obtain ⟨ck, hck⟩ : ∃ ck, checkP m = ck := ⟨_, rfl⟩
  obtain ⟨L, hL⟩ : ∃ L : List Int, L = if ck = 0 then frameP (bodyP m) else [] := ⟨_, rfl⟩
  have hpe : (if checkP m = 0 then (0 : Int) else checkP m) = ck := by rw [hck]; split <;> omega
  have HPE := Aside0.mk hpe
  have HL1 := Aside0.mk (show (if checkP m = 0 then frameP (bodyP m) else []) = L by rw [hck, hL])
  have HLL := Aside0.mk hL
  have HCK := Aside0.mk hck
  have HBY := Aside0.mk hby
  have HP := Aside0.mk hp
  have HOK := Aside0.mk hok
  have HSM := Aside0.mk hsm
  have HML := Aside0.mk hML
  have HBL := Aside0.mk hbl
  clear hsm hML hok hby hp hL hck hbl HGG hpe
  have q0 : w1.cell? ⟨w.heap.size, 0, none⟩ = some (.int .i64 m.gen) := blk_cell HX1.out 0
  have q1 : w1.cell? ⟨w.heap.size, 1, none⟩ = some (.int .i64 m.next) := blk_cell HX1.out 1
  have q2 : w1.cell? ⟨w.heap.size, 2, none⟩ = some (.slice As m.schema.length cs) := blk_cell HX1.out 2
  have q3 : w1.cell? ⟨w.heap.size, 3, none⟩ = some (.int .i64 m.most) := blk_cell HX1.out 3
  have q4 : w1.cell? ⟨w.heap.size, 4, none⟩ = some (.slice Ag m.groups.length cg) := blk_cell HX1.out 4
  have q5 : w1.cell? ⟨w.heap.size, 5, none⟩ = some (.slice Al m.loose.length cl) := blk_cell HX1.out 5
  have q6 : w1.cell? ⟨w.heap.size, 6, none⟩ = some (.slice Ae m.entries.length ce) := blk_cell HX1.out 6
  go_wp2_with fail
  (with_reducible refine (put_calls 5 m As cs Ag cg Al cl Ae ce w1 (frameP (bodyP m)) 0 (HM.out.below HB1.out) HOK.out hls hle hbl2 HP.out).mono ?_)
  rw [HPE.out, HL1.out]
  rintro e wa ⟨vx, rfl, hrx, hbx⟩
  obtain ⟨Ax, cx, rfl, hlx, hcx⟩ := Kd.R_reads hrx
  have HBa := Aside0.mk (below_call HB1.out hbx)
  have HXa := Aside0.mk ((hbx.block _ (blk_lt HX1.out)).trans HX1.out)
  have HNa := Aside0.mk (HN.out.of_below HBa.out)
  have HCX := Aside0.mk hcx
  have HLX := Aside0.mk hlx
  clear hrx hbx hlx hcx q0 q1 q2 q3 q4 q5 q6
  by_cases hc : ck = 0
  case neg =>
    have hne : (ck != 0) = true := by simpa using hc
    have hk : ((L.length : Int) == 0) = true := by rw [HLL.out, if_neg hc]; rfl
    clear hc
    go_wp2_with fail
    refine (estreatlaw26_awake.calls true _ HNa.out rfl).mono ?_
    rintro ev w4 ⟨rfl, hb4⟩
    go_wp2_with fail
    go_ret
    exact ⟨rfl, below_call HBa.out hb4⟩
  have hne : (ck != 0) = false := by simpa using hc
  have hLf : L = frameP (bodyP m) := by rw [HLL.out, if_pos hc]
  have hbk := back_facts m HT.out HML.out HSM.out (HCK.out.trans hc)
  have hll : L.length = 8 + (bodyP m).length := by rw [hLf, frameP_length]
  have HLE := Aside0.mk hll
  have HLF := Aside0.mk hLf
  have HBK := Aside0.mk hbk
  clear hc hll hLf hbk
  have hq1 : takeA (L.length : Int) (bodyP m) ((8 + (bodyP m).length : Nat) : Int) 0 = (m, 0) := by
    unfold takeA
    rw [if_pos rfl, if_neg (by rw [HLE.out]; omega), if_pos HBK.out.2, HBK.out.1]
  have hbn : Byte ([] : List Int) := fun x hx => by cases hx
  have hb8 : (bodyP m).length ≤ 1000000 := by have := HBL.out; omega
  have hg1 : frame_Get.f L = some (bodyP m, ((8 + (bodyP m).length : Nat) : Int), 0) := by
    have := get_own (bodyP m) [] HBY.out hbn hb8 (by simp)
    rw [List.append_nil] at this
    rw [HLF.out]
    exact this
  have ht1 := qTakeM Ax cx L (bodyP m) _ 0 wa HCX.out HLX.out HNa.out hg1 (fun _ => ⟨HBY.out, hb8⟩)
  rw [hq1] at ht1
  have HT1 := Aside0.mk ht1
  clear hq1 hbn hb8 hg1 ht1
  go_wp2_with fail
  refine HT1.out.mono ?_
  rintro ev w2 ⟨⟨As', cs', Ag', cg', Al', cl', Ae', ce', rfl, hM⟩, hb⟩
  have hal : Below w2.heap.size w2 (w2.alloc (.cells (mnCells m As' cs' Ag' cg' Al' cl' Ae' ce') 27)) := below_alloc (Below.refl _ _) _
  have hb2 := below_then hb hb.size hal
  have HB2 := Aside0.mk (below_then HBa.out HBa.out.size hb2)
  have HM2 := Aside0.mk (hM.below hal)
  have HX2 := Aside0.mk ((hb2.block _ (blk_lt HXa.out)).trans HXa.out)
  have HY2 := Aside0.mk (heap_alloc_new w2 (.cells (mnCells m As' cs' Ag' cg' Al' cl' Ae' ce') 27))
  have HC2 := Aside0.mk (Kd.C_below HCX.out hb2)
  clear hM hb hal hb2 HT1 HCX
  have HBW := Aside0.mk (show Below (w2.alloc (.cells (mnCells m As' cs' Ag' cg' Al' cl' Ae' ce') 27)).heap.size (w2.alloc (.cells (mnCells m As' cs' Ag' cg' Al' cl' Ae' ce') 27)) ((w2.alloc (.cells (mnCells m As' cs' Ag' cg' Al' cl' Ae' ce') 27)).alloc (.cells #[] 5)) from below_alloc (Below.refl _ _) _)
  have HLP := Aside0.mk (show 0 < L.length by rw [HLE.out]; omega)
  have HLQ := Aside0.mk (show L.length ≤ 2000000 by rw [HLE.out]; have := HBL.out; omega)
  go_wp2_with (first | (refine wpList_store_row rfl 27 (.tmp 7) (.tmp 32) rfl w2.heap.size (mnCells m As' cs' Ag' cg' Al' cl' Ae' ce') rfl rfl 27 _ (heap_alloc_new w2 _) (by kernel_rfl) rfl (by kernel_rfl) ?_; rw [World.setRow_alloc_new]) | ((with_reducible refine gate_builtin (b := .append) (xs := #[.tmp 35, .tmp 36]) rfl ?_); at_builtin; refine app_empty rfl (.tmp 35) (.tmp 36) rfl _ L Ax L.length cx rfl rfl HBW.out (Kd.C_below HC2.out HBW.out) HLP.out (Nat.le_trans HLQ.out (by decide)) ?_; intro v3 w3 ha3; have HA3 := Aside0.mk ha3; clear ha3) | ((with_reducible refine gate_builtin (b := .append) (xs := #[.tmp 37, .tmp 38]) rfl ?_); at_builtin; refine app_rows rfl (.tmp 37) (.tmp 38) rfl v3 L [0] (some ⟨w3.heap.size, 0, none⟩) 1 1 rfl rfl (HA3.out.below (below_alloc (Below.refl _ _) _)) (one_C (heap_alloc_new w3 _)) (Nat.le_trans (Nat.add_le_add_right HLQ.out 1) (by decide)) ?_; intro v4 w4 ha4 hk4; have HA4 := Aside0.mk ha4; clear ha4 hk4))
  obtain ⟨A4, c4, rfl⟩ := HA4.out.slice
  have hr4 := Kd.R_reads' HA4.out.own
  have hq2 : takeA ((L ++ [0]).length : Int) (bodyP m) ((8 + (bodyP m).length : Nat) : Int) 0 = (zMn, 3) := by
    unfold takeA
    rw [if_pos rfl, if_pos (by rw [List.length_append, HLE.out, List.length_singleton]; omega)]
  have hg2 : frame_Get.f (L ++ [0]) = some (bodyP m, ((8 + (bodyP m).length : Nat) : Int), 0) := by
    rw [HLF.out]
    exact get_own (bodyP m) [0] HBY.out (fun x hx => by rw [List.mem_singleton.1 hx]; decide) HBL.out (by simp)
  have HN4 := Aside0.mk (HN.out.of_below (below_then HB2.out HB2.out.size HA4.out.bel))
  have ht2 := qTakeM A4 c4 (L ++ [0]) (bodyP m) _ 0 w4 hr4.2.2 hr4.2.1 HN4.out hg2 (fun _ => ⟨HBY.out, HBL.out⟩)
  rw [hq2] at ht2
  refine ht2.mono ?_
  rintro ev w5 ⟨⟨As5, cs5, Ag5, cg5, Al5, cl5, Ae5, ce5, rfl, hM5⟩, hb5⟩
  have hal5 : Below w5.heap.size w5 (w5.alloc (.cells (mnCells zMn As5 cs5 Ag5 cg5 Al5 cl5 Ae5 ce5) 27)) := below_alloc (Below.refl _ _) _
  have hWX := HA4.out.bel
  have hb45 := below_then hb5 hb5.size hal5
  have hb25 := below_then hWX hWX.size hb45
  have HB5 := Aside0.mk (below_then HB2.out HB2.out.size hb25)
  have HM5 := Aside0.mk (HM2.out.below hb25)
  have HX5 := Aside0.mk ((hb25.block _ (blk_lt HX2.out)).trans HX2.out)
  have HY5 := Aside0.mk ((hb25.block _ (blk_lt HY2.out)).trans HY2.out)
  have HC5 := Aside0.mk (Kd.C_below HC2.out hb25)
  clear hM5 hb5 hal5 hWX hb45 hb25 hr4 hq2 hg2 ht2
  obtain ⟨LL, hLL⟩ : ∃ k, k = L.length := ⟨_, rfl⟩
  go_wp2_with (refine wpList_store_row rfl 27 (.tmp 9) (.tmp 41) rfl w5.heap.size (mnCells zMn As5 cs5 Ag5 cg5 Al5 cl5 Ae5 ce5) rfl rfl 27 _ (heap_alloc_new w5 _) (by kernel_rfl) rfl (by kernel_rfl) ?_; rw [World.setRow_alloc_new])
  refine (pick_calls n L.length HLP.out (by have := HLQ.out; omega) _).mono ?_
  rintro ev w6 ⟨k, rfl, hk, rfl⟩
  have hkc : k ≤ cx := Nat.le_trans (Nat.le_of_lt hk) HLX.out
  have hkl : (k : Int) ≤ cx := by omega
  have hk0 : (0 : Int) ≤ k := by omega
  have htl : (L.take k).length = k := by rw [List.length_take]; omega
  have hC6 := Kd.C_take HC5.out (Nat.le_of_lt hk)
  rw [htl] at hC6
  have hq3 : takeA ((L.take k).length : Int) [] 0 2 = (zMn, 2) := by unfold takeA; rw [if_neg (by decide)]
  have hg3 : frame_Get.f (L.take k) = some ([], 0, 2) := by
    have := hk
    rw [HLF.out] at this ⊢
    exact get_cut (bodyP m) HBY.out HBL.out k this
  have HN6 := Aside0.mk (HN.out.of_below HB5.out)
  have ht3 := qTakeM Ax cx (L.take k) [] 0 2 (w5.alloc (.cells (mnCells zMn As5 cs5 Ag5 cg5 Al5 cl5 Ae5 ce5) 27)) (by rw [htl]; exact hC6) (by rw [htl]; exact hkc) HN6.out hg3 (fun h => absurd h (by decide))
  rw [hq3, htl] at ht3
  have HT3 := Aside0.mk ht3
  clear ht3 hq3 hg3 hC6
  go_wp2_with fail
  refine HT3.out.mono ?_
  rintro ev w7 ⟨⟨As7, cs7, Ag7, cg7, Al7, cl7, Ae7, ce7, rfl, hM7⟩, hb7⟩
  have hal7 : Below w7.heap.size w7 (w7.alloc (.cells (mnCells zMn As7 cs7 Ag7 cg7 Al7 cl7 Ae7 ce7) 27)) := below_alloc (Below.refl _ _) _
  have hb57 := below_then hb7 hb7.size hal7
  have HB7 := Aside0.mk (below_then HB5.out HB5.out.size hb57)
  have HM7 := Aside0.mk (HM5.out.below hb57)
  have HX7 := Aside0.mk ((hb57.block _ (blk_lt HX5.out)).trans HX5.out)
  have HY7 := Aside0.mk ((hb57.block _ (blk_lt HY5.out)).trans HY5.out)
  have HMo := Aside0.mk (HM.out.below HB7.out)
  clear hM7 hb7 hal7 hb57 HT3
  go_wp2_with (first | (refine wpList_store_row rfl 27 (.tmp 11) (.tmp 51) rfl w7.heap.size (mnCells zMn As7 cs7 Ag7 cg7 Al7 cl7 Ae7 ce7) rfl rfl 27 _ (heap_alloc_new w7 _) (by kernel_rfl) rfl (by kernel_rfl) ?_; rw [World.setRow_alloc_new]) | (refine gate_guard (by rfl) ?_; dsimp only; refine wpList_load_row rfl 27 (.tmp 7) rfl w2.heap.size rfl 27 (mnCells m As' cs' Ag' cg' Al' cl' Ae' ce') (0, 0) _ HY7.out Tryz.underlying27 rfl (by kernel_rfl) ?_) | (refine gate_guard (by rfl) ?_; dsimp only; refine wpList_load_row rfl 27 (.tmp 2) rfl w.heap.size rfl 27 (mnCells m As cs Ag cg Al cl Ae ce) (0, 0) _ HX7.out Tryz.underlying27 rfl (by kernel_rfl) ?_))
  refine (refSame_calls m As' cs' Ag' cg' Al' cl' Ae' ce' As cs Ag cg Al cl Ae ce _ HM7.out HMo.out).mono ?_
  rintro ev w8 ⟨rfl, hb8⟩
  have HB8 := Aside0.mk (below_then HB7.out HB7.out.size hb8)
  have HN8 := Aside0.mk (HN.out.of_below HB8.out)
  clear hb8
  go_wp2_with fail
  refine (estreatlaw26_awake.calls true _ HN8.out rfl).mono ?_
  rintro ev w9 ⟨rfl, hb9⟩
  have HB9 := Aside0.mk (below_then HB8.out HB8.out.size hb9)
  clear hb9
  go_wp2_with fail
  go_ret
  exact ⟨rfl, HB9.out⟩
end Go.Proofs.YtjmhiklmlgbifaaGreatDoor.PMan
end

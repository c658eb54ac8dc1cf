/- Texts, put into one. -/
import Derived.Test.YtjmhiklmlgbifaaGreatDoorPT47
import Derived.Test.YtjmhiklmlgbifaaGreatDoorPT48
import Derived.Test.YtjmhiklmlgbifaaGreatDoorPT50
import Derived.Test.YtjmhiklmlgbifaaGreatDoorPTW
set_option linter.unusedVariables false
set_option linter.unusedSimpArgs false
open Go Go.RowKit Go.Proofs.YtjmhiklmlgbifaaGreatDoorW.PrintWords Go.Proofs.YtjmhiklmlgbifaaGreatDoorW.PrintLast Go.Proofs.YtjmhiklmlgbifaaGreatDoorW.PrintMore
namespace Go.Proofs.YtjmhiklmlgbifaaGreatDoor.PMan
section
attribute [local go_sem] max2_int min2_int max_two min_two max_three min_three max_four min_four
set_option maxHeartbeats 1600000 in
set_option maxRecDepth 100000 in
theorem m_log3 (w : World) : Calls Tryz.prog 15 #[.int .i64 3] w fun e w' => e = .returned (.string ⟨#[108, 111, 103, 45, 51]⟩) ∧ w = w' := by
 go_enter Tryz.func15, Tryz.ntmps15
 go_wp2
 go_ret
 exact ⟨by kernel_rfl, rfl⟩
set_option maxHeartbeats 1600000 in
set_option maxRecDepth 100000 in
theorem m_group12 (w : World) : Calls Tryz.prog 17 #[.int .i64 12] w fun e w' => e = .returned (.string ⟨#[103, 114, 111, 117, 112, 45, 49, 50]⟩) ∧ w = w' := by
 go_enter Tryz.func17, Tryz.ntmps17
 go_wp2
 go_ret
 exact ⟨by kernel_rfl, rfl⟩
def estreatlaw26_awake.f : Option Bool := some true
set_option maxHeartbeats 4000000 in
set_option maxRecDepth 100000 in
theorem m_awake (w : World) (hG : ErrT w) : Calls Tryz.prog 9 #[] w fun ev w' => ev = .returned (.bool true) ∧ Below w.heap.size w w' := by
 have HG := am hG
 clear hG
 go_enter Tryz.func9, Tryz.ntmps9
 go_wp2_with fail
 refine (m_least w).mono ?_
 rintro ev w1 ⟨s1, e1, rfl, hM, hb⟩
 have HM1 := am hM
 have HB1 := am hb
 clear hM hb
 go_wp2_with fail
 refine (m_put s1 1 e1 1 w1 HM1.out).mono ?_
 rintro ev w2 ⟨v, rfl, hr, hb⟩
 obtain ⟨A, c, rfl⟩ := Kd.R_slice hr
 have hrd := Kd.R_reads' hr
 have HRD := am hrd.2.2
 have HCD := am hrd.2.1
 have HB2 := am (below_then HB1.out HB1.out.size hb)
 clear hr hb hrd
 go_wp2_with fail
 refine (m_take A c w2 HRD.out HCD.out (HG.out.of_below HB2.out)).mono ?_
 rintro ev w3 ⟨s, cs, e, ce, rfl, hM, hb⟩
 have HM3 := am hM
 have HB3 := am (below_then HB2.out HB2.out.size hb)
 clear hM hb
 go_wp2_with (refine wpList_store_row rfl 27 (.tmp 3) (.tmp 13) rfl w3.heap.size (MCells 0 0 (.slice (some ⟨s, 0, none⟩) 1 cs) 1 (.slice (some ⟨e, 0, none⟩) 1 ce)) rfl rfl 27 (MCells 0 0 (.slice none 0 0) 0 (.slice none 0 0)) (heap_alloc_new w3 _) (by kernel_rfl) rfl (by kernel_rfl) ?_; rw [World.setRow_alloc_new])
 have hx : (w3.alloc (.cells (MCells 0 0 (.slice (some ⟨s, 0, none⟩) 1 cs) 1 (.slice (some ⟨e, 0, none⟩) 1 ce)) 27)).drew.heap[w3.heap.size]? = some (.cells (MCells 0 0 (.slice (some ⟨s, 0, none⟩) 1 cs) 1 (.slice (some ⟨e, 0, none⟩) 1 ce)) 27 (0, 0)) := heap_alloc_new w3 _
 have hb4 : Below w3.heap.size w3 (w3.alloc (.cells (MCells 0 0 (.slice (some ⟨s, 0, none⟩) 1 cs) 1 (.slice (some ⟨e, 0, none⟩) 1 ce)) 27)).drew := below_drew (below_alloc (Below.refl _ _) _)
 have HX := am hx
 have HB4 := am (below_then HB3.out HB3.out.size hb4)
 have HM4 := am (HM3.out.below hb4)
 clear hb4
 refine start_ (n := 20) (S := fun w' => w'.heap[w3.heap.size]? = some (.cells (MCells 0 0 (.slice (some ⟨s, 0, none⟩) 1 cs) 1 (.slice (some ⟨e, 0, none⟩) 1 ce)) 27 (0, 0))) (ds := []) #[false, false, false, false, false, false, false, false, false, false, false, false, false, false, false, false, false, false, false, false] (by kernel_rfl) rfl rfl (hx) (fun hHeld => ?_)
 generalize (w3.alloc (.cells (MCells 0 0 (.slice (some ⟨s, 0, none⟩) 1 cs) 1 (.slice (some ⟨e, 0, none⟩) 1 ce)) 27)).drew = W4 at *
 refine on (i := 0) (N := some 15) rfl rfl (by kernel_rfl) (by decide) (fun K hK => ?_)
 refine goes_ Tryz.func15 (by kernel_rfl) rfl #[.int .i64 3] (by rfl) rfl rfl (by simp only [List.map_toArray, List.map_cons, List.map_nil]; rfl) ?_
 with_reducible refine (m_log3 _).mono ?_
 rintro ev w' ⟨rfl, rfl⟩
 refine ⟨_, rfl, ?_⟩
 refine hK.out _ _ (hx) (fun hHeld => ?_)
 clear hK K
 refine norm_ (a' := ?_) ?_ ?_
 rotate_left
 ·show Act.put _ (some 15) _ = _
  simp only [Act.put, sA1, sA2, sA3, i64_w, i32_w]
  rfl
 refine pu 1 (some 16) ?_ ?_ ?_ ?_ ?_
 rotate_left 2
 ·intro w'
  go_simp
  with_reducible rfl
 ·simp only [Act.put, sA1, sA2, sA3, i64_w, i32_w]
  rfl
 refine pu 2 (some 17) ?_ ?_ ?_ ?_ ?_
 rotate_left 2
 ·intro w'
  go_simp
  with_reducible rfl
 ·simp only [Act.put, sA1, sA2, sA3, i64_w, i32_w]
  rfl
 refine on (i := 3) (N := some 18) rfl rfl (by kernel_rfl) (by decide) (fun K hK => ?_)
 refine goes_ Tryz.func17 (by kernel_rfl) rfl #[.int .i64 12] (by rfl) rfl rfl (by simp only [List.map_toArray, List.map_cons, List.map_nil]; rfl) ?_
 with_reducible refine (m_group12 _).mono ?_
 rintro ev w' ⟨rfl, rfl⟩
 refine ⟨_, rfl, ?_⟩
 refine hK.out _ _ (hx) (fun hHeld => ?_)
 clear hK K
 refine norm_ (a' := ?_) ?_ ?_
 rotate_left
 ·show Act.put _ (some 18) _ = _
  simp only [Act.put, sA1, sA2, sA3, i64_w, i32_w]
  rfl
 refine pu 4 (some 19) ?_ ?_ ?_ ?_ ?_
 rotate_left 2
 ·intro w'
  go_simp
  with_reducible rfl
 ·simp only [Act.put, sA1, sA2, sA3, i64_w, i32_w]
  rfl
 refine pu 5 (some 20) ?_ ?_ ?_ ?_ ?_
 rotate_left 2
 ·intro w'
  go_simp
  with_reducible rfl
 ·simp only [Act.put, sA1, sA2, sA3, i64_w, i32_w]
  rfl
 refine pu 6 (some 21) ?_ ?_ ?_ ?_ ?_
 rotate_left 2
 ·intro w'
  go_simp
  with_reducible rfl
 ·simp only [Act.put, sA1, sA2, sA3, i64_w, i32_w]
  rfl
 refine pu 7 (some 22) ?_ ?_ ?_ ?_ ?_
 rotate_left 2
 ·intro w'
  go_simp
  with_reducible rfl
 ·simp only [Act.put, sA1, sA2, sA3, i64_w, i32_w]
  rfl
 refine pu 8 (some 23) ?_ ?_ ?_ ?_ ?_
 rotate_left 2
 ·intro w'
  go_simp
  with_reducible rfl
 ·simp only [Act.put, sA1, sA2, sA3, i64_w, i32_w]
  rfl
 refine pu 9 (some 24) ?_ ?_ ?_ ?_ ?_
 rotate_left 2
 ·intro w'
  go_simp
  with_reducible rfl
 ·simp only [Act.put, sA1, sA2, sA3, i64_w, i32_w]
  rfl
 refine pu 10 (some 25) ?_ ?_ ?_ ?_ ?_
 rotate_left 2
 ·intro w'
  go_simp
  with_reducible rfl
 ·simp only [Act.put, sA1, sA2, sA3, i64_w, i32_w]
  rfl
 refine pu 11 (some 26) ?_ ?_ ?_ ?_ ?_
 rotate_left 2
 ·intro w'
  go_simp
  with_reducible rfl
 ·simp only [Act.put, sA1, sA2, sA3, i64_w, i32_w]
  rfl
 refine pu 12 (some 27) ?_ ?_ ?_ ?_ ?_
 rotate_left 2
 ·intro w'
  go_simp
  with_reducible rfl
 ·simp only [Act.put, sA1, sA2, sA3, i64_w, i32_w]
  rfl
 refine pu 13 (some 28) ?_ ?_ ?_ ?_ ?_
 rotate_left 2
 ·intro w'
  go_simp
  with_reducible rfl
 ·simp only [Act.put, sA1, sA2, sA3, i64_w, i32_w]
  rfl
 refine pu 14 (some 29) ?_ ?_ ?_ ?_ ?_
 rotate_left 2
 ·intro w'
  go_simp
  with_reducible rfl
 ·simp only [Act.put, sA1, sA2, sA3, i64_w, i32_w]
  rfl
 refine tk 15 (some 30) ?_ ?_ hHeld ?_ ?_ ?_
 rotate_left 2
 ·intro w' s0
  refine exec_load 27 (.tmp 3) ?_ w3.heap.size ?_ 27 (MCells 0 0 (.slice (some ⟨s, 0, none⟩) 1 cs) 1 (.slice (some ⟨e, 0, none⟩) 1 ce)) (0, 0) _ s0 Tryz.underlying27 rfl ?_
  ·rfl
  ·rfl
  ·kernel_rfl
 ·simp only [Act.put, sA1, sA2, sA3, i64_w, i32_w]
  rfl
 refine on (i := 16) (N := some 31) rfl rfl (by kernel_rfl) (by decide) (fun K hK => ?_)
 refine goes_ Tryz.func28 (by kernel_rfl) rfl #[] (by rfl) rfl rfl (by simp) ?_
 with_reducible refine (m_least W4).mono ?_
 rintro ev w5 ⟨s2, e2, rfl, hM2, hb5⟩
 refine ⟨_, rfl, ?_⟩
 have HM2 := am hM2
 have HB5 := am hb5
 have hx := (hb5.block _ (blk_lt HX.out)).trans HX.out
 clear hM2 hb5
 refine hK.out _ _ (hx) (fun hHeld => ?_)
 clear hK K
 refine norm_ (a' := ?_) ?_ ?_
 rotate_left
 ·show Act.put _ (some 31) _ = _
  simp only [Act.put, sA1, sA2, sA3, i64_w, i32_w]
  rfl
 refine on (i := 17) (N := some 32) rfl rfl (by kernel_rfl) (by decide) (fun K hK => ?_)
 refine goes_ Tryz.func20 (by kernel_rfl) rfl #[ManV s cs e ce, ManV s2 1 e2 1] (by rfl) rfl rfl (by simp only [List.map_toArray, List.map_cons, List.map_nil]; rfl) ?_
 with_reducible refine (m_same s cs e ce s2 1 e2 1 w5 (HM4.out.below HB5.out) HM2.out).mono ?_
 rintro ev w6 ⟨rfl, hb6⟩
 refine ⟨_, rfl, ?_⟩
 have HB6 := am hb6
 clear hb6
 refine hK.out _ _ ((HB6.out.block _ (blk_lt hx)).trans hx) (fun hHeld => ?_)
 clear hK K
 refine norm_ (a' := ?_) ?_ ?_
 rotate_left
 ·show Act.put _ (some 32) _ = _
  simp only [Act.put, sA1, sA2, sA3, i64_w, i32_w]
  rfl
 refine pu 18 (some 33) ?_ ?_ ?_ ?_ ?_
 rotate_left 2
 ·intro w'
  go_simp
  with_reducible rfl
 ·simp only [Act.put, sA1, sA2, sA3, i64_w, i32_w]
  rfl
 refine pu 19 (some 0) ?_ ?_ ?_ ?_ ?_
 rotate_left 2
 ·intro w'
  go_simp
  with_reducible rfl
 ·simp only [Act.put, sA1, sA2, sA3, i64_w, i32_w]
  rfl
 refine done_ (by kernel_rfl) ?_
 go_wp2
 go_ret
 exact ⟨rfl, below_then (below_then HB4.out HB4.out.size HB5.out) (Nat.le_trans HB4.out.size HB5.out.size) HB6.out⟩
theorem estreatlaw26_awake.calls (r : Bool) (w : World) (hG : ErrT w) (h : estreatlaw26_awake.f = some r) :
  Calls Tryz.prog 9 #[] w fun e w' => e = .returned (.bool r) ∧ Below w.heap.size w w' := by
 obtain rfl := Option.some.inj h
 exact m_awake w hG
end
section
open Go.Proofs.YtjmhiklmlgbifaaGreatDoor.CrcMath Go.Proofs.YtjmhiklmlgbifaaGreatDoor.FrameMath
theorem get_facts (b : List Int) (h : Byte b) (hl : b.length ≤ 8000) : ∃ (p : List Int) (n e : Int), frame_Get.f b = some (p, n, e) ∧ (e = 0 → ByteL p ∧ p.length ≤ 1000000) := by
 by_cases h8 : b.length < 8
 ·obtain ⟨e, hf, he⟩ := get_short b h h8
  exact ⟨[], 0, e, hf, fun h0 => absurd h0 he⟩
 ·obtain ⟨x0, x1, x2, x3, x4, x5, x6, x7, r, rfl⟩ := cons8 b (by omega)
  simp only [List.length_cons] at hl
  have hg := get_long x0 x1 x2 x3 x4 x5 x6 x7 r h (by omega)
  by_cases q1 : 16777216 < le4 x0 x1 x2 x3
  ·rw [if_pos q1] at hg
   exact ⟨_, _, _, hg, fun h0 => absurd h0 (by decide)⟩
  ·rw [if_neg q1] at hg
   by_cases q2 : r.length < le4 x0 x1 x2 x3
   ·rw [if_pos q2] at hg
    exact ⟨_, _, _, hg, fun h0 => absurd h0 (by decide)⟩
   ·rw [if_neg q2] at hg
    by_cases q3 : le4 x4 x5 x6 x7 = (sum 0#32 ([x0, x1, x2, x3] ++ r.take (le4 x0 x1 x2 x3))).toNat
    ·rw [if_pos q3] at hg
     refine ⟨_, _, _, hg, fun _ => ⟨fun x hx => h x ?_, ?_⟩⟩
     ·have := List.mem_of_mem_take hx
      simp [this]
     ·rw [List.length_take]; omega
    ·rw [if_neg q3] at hg
     exact ⟨_, _, _, hg, fun h0 => absurd h0 (by decide)⟩
theorem refTake (kk : Nat) (A0 : Option Addr) (c0 : Nat) (b p : List Int) (n ec : Int) (w : World) (hr0 : Kd.C (Kd.int .u8) w A0 b.length b) (hc0 : b.length ≤ c0) (hf : estreatref04_Get.f kk b = some (p, n, ec)) (hp : ec = 0 → ByteL p ∧ p.length ≤ 1000000) :
  Calls Tryz.prog 19 #[.slice A0 b.length c0] w fun ev w' => TakeA w w' ev (takeA b.length p n ec).1 (takeA b.length p n ec).2 :=
 refTake_core kk A0 c0 b p n ec w hr0 hc0 hf (genQ p).1 (nextQ p).1 (mostQ p).1 (ngQ p).1 (neQ p).1 (genQ p).2 (nextQ p).2 (mostQ p).2 (mschQ p).2 (ngQ p).2 (mgrpQ p).2 (mrowQ p).2 (neQ p).2 (mentQ p).2 (mschQ p).1 (mgrpQ p).1 (mrowQ p).1 (mentQ p).1
  rfl rfl rfl rfl rfl rfl rfl rfl rfl (fun he => by
   obtain ⟨h1, h2⟩ := hp he
   have hi := in0 h1 (show p.length < 1000000000 by omega)
   exact ⟨h1, by omega, schQ_len (gen_in hi), numQ_range (by decide) (ng_in hi), numQ_range (by decide) (ne_in hi)⟩) (goodM p) rfl (takeA b.length p n ec) rfl
set_option maxHeartbeats 8000000 in
set_option maxRecDepth 100000 in
theorem lawTakes_calls (A0 : Option Addr) (c0 : Nat) (b : List Int) (w : World) (hG : ErrT w) (hr0 : Kd.C (Kd.int .u8) w A0 b.length b) (hc0 : b.length ≤ c0) (hw : ∀ x ∈ b, (Lit.int .u8 x).wf = true) :
  Calls Tryz.prog 4 #[.slice A0 b.length c0] w fun e w' => e = .returned (.bool true) ∧ Below w.heap.size w w' := by
 have HR := am hr0
 have HC := am hc0
 have HG := am hG
 have HW := am (byte_of b hw)
 clear hr0 hc0 hG hw
 go_enter Tryz.func4, Tryz.ntmps4
 by_cases h8 : (b.length : Int) > 8000
 ·go_wp2_with (go_at_call 9; (with_reducible refine (estreatlaw26_awake.calls true _ HG.out rfl).mono ?_); rintro e w2 ⟨rfl, hb2⟩)
  go_ret
  exact ⟨rfl, hb2⟩
 obtain ⟨p, n, ec, hf, hp⟩ := get_facts b HW.out (by omega)
 have hf2 : estreatref04_Get.f (10 * b.length + 101) b = some (p, n, ec) := (refget_is _ b HW.out (by omega) (by omega)).trans hf
 have hq := fun W (h1 : Kd.C (Kd.int .u8) W A0 b.length b) (h2 : ErrT W) => qTakeM A0 c0 b p n ec W h1 HC.out h2 hf hp
 have ht := fun W (h1 : Kd.C (Kd.int .u8) W A0 b.length b) => refTake _ A0 c0 b p n ec W h1 HC.out hf2 hp
 generalize takeA b.length p n ec = r at *
 obtain ⟨m, x⟩ := r
 dsimp only at hq ht
 have HQ := am hq
 have HT := am ht
 clear hq ht hf hf2 hp HW
 go_wp2_with fail
 refine (HQ.out w HR.out HG.out).mono ?_
 rintro ev w1 ⟨⟨As, cs, Ag, cg, Al, cl, Ae, ce, rfl, hM⟩, hb⟩
 have hal : Below w1.heap.size w1 (w1.alloc (.cells (mnCells m As cs Ag cg Al cl Ae ce) 27)) := below_alloc (Below.refl _ _) _
 have HB1 := am (below_then hb hb.size hal)
 have HM1 := am (hM.below hal)
 have HX1 := am (heap_alloc_new w1 (.cells (mnCells m As cs Ag cg Al cl Ae ce) 27))
 have HR1 := am (Kd.C_below HR.out HB1.out)
 clear hM hb hal HQ
 go_wp2_with (refine wpList_store_row rfl 27 (.tmp 3) (.tmp 14) rfl w1.heap.size (mnCells m As cs Ag cg Al cl Ae ce) rfl rfl 27 _ (heap_alloc_new w1 _) (by kernel_rfl) rfl (by kernel_rfl) ?_; rw [World.setRow_alloc_new])
 generalize w1.alloc (.cells (mnCells m As cs Ag cg Al cl Ae ce) 27) = W1 at *
 generalize w1.heap.size = b1 at *
 refine (HT.out W1 HR1.out).mono ?_
 rintro ev w2 ⟨⟨As', cs', Ag', cg', Al', cl', Ae', ce', rfl, hM⟩, hb⟩
 have hal : Below w2.heap.size w2 (w2.alloc (.cells (mnCells m As' cs' Ag' cg' Al' cl' Ae' ce') 27)) := below_alloc (Below.refl _ _) _
 have hb2 := below_then hb hb.size hal
 have HB2 := am (below_then HB1.out HB1.out.size hb2)
 have HM2 := am (HM1.out.below hb2)
 have HX2 := am ((hb2.block _ (blk_lt HX1.out)).trans HX1.out)
 have HM2' := am (hM.below hal)
 have HX2' := am (heap_alloc_new w2 (.cells (mnCells m As' cs' Ag' cg' Al' cl' Ae' ce') 27))
 clear hM hb hal hb2 HT HR1 HB1
 go_wp2_with (first | (refine wpList_store_row rfl 27 (.tmp 5) (.tmp 19) rfl w2.heap.size (mnCells m As' cs' Ag' cg' Al' cl' Ae' ce') rfl rfl 27 _ (heap_alloc_new w2 _) (by kernel_rfl) rfl (by kernel_rfl) ?_; rw [World.setRow_alloc_new]) | (refine wpList_load_row rfl 27 (.tmp 3) rfl b1 rfl 27 (mnCells m As cs Ag cg Al cl Ae ce) (0, 0) _ HX2.out Tryz.underlying27 rfl (by kernel_rfl) ?_) | (refine wpList_load_row rfl 27 (.tmp 5) rfl w2.heap.size rfl 27 (mnCells m As' cs' Ag' cg' Al' cl' Ae' ce') (0, 0) _ HX2'.out Tryz.underlying27 rfl (by kernel_rfl) ?_))
 refine (refSame_calls m As cs Ag cg Al cl Ae ce As' cs' Ag' cg' Al' cl' Ae' ce' _ HM2.out HM2'.out).mono ?_
 rintro ev w3 ⟨rfl, hb3⟩
 have HB3 := am (below_then HB2.out HB2.out.size hb3)
 have HG3 := am (HG.out.of_below HB3.out)
 clear hb3
 go_wp2_with fail
 refine (estreatlaw26_awake.calls true _ HG3.out rfl).mono ?_
 rintro ev w4 ⟨rfl, hb4⟩
 have HB4 := am (below_then HB3.out HB3.out.size hb4)
 clear hb4
 go_wp2_with fail
 go_ret
 exact ⟨rfl, HB4.out⟩
end
end Go.Proofs.YtjmhiklmlgbifaaGreatDoor.PMan

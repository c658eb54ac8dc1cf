/- Texts of this proof, put into one, without what it does not use: MrF, MrG. -/
import Derived.Test.YtjmhiklmlgbifaaGreatDoorPU11
import Derived.Test.YtjmhiklmlgbifaaGreatDoorPU17
section
namespace Go.Proofs.YtjmhiklmlgbifaaGreatDoor.PMan
open Go.RowKit Go.Proofs.YtjmhiklmlgbifaaGreatDoorW.PrintWords Go.Proofs.YtjmhiklmlgbifaaGreatDoorW.PrintLast Go.Proofs.YtjmhiklmlgbifaaGreatDoorW.PrintMore
set_option linter.unusedVariables false
set_option linter.unusedSimpArgs false
theorem App.one (w : World) (x : Int) : App w (w.alloc (.cells #[.int .u8 x] 5)) (.slice (some ⟨w.heap.size, 0, none⟩) 1 1) [x] := by
  refine ⟨below_alloc (Below.refl _ _) _, fun k hk => trivial, [.int .u8 x], ?_, Reps.one (show Kd.M (Kd.int .u8) _ _ _ x [.int .u8 x] from rfl) (Reps.none _ _)⟩
  have h2 := World.ownsRow_lit (base := w.heap.size) (e := 5) (size := 1) w #[.int .u8 x] 1 (Nat.le_refl _) (by decide) rfl
  show World.ownsRow _ w.heap.size 5 1 _ _ _
  simpa using h2
theorem bytes_C {w : World} {b : Nat} {xs : List Int} {t : TypeId} (h : w.heap[b]? = some (.cells (xs.map (Value.int .u8)).toArray t (0, 0))) (hl : xs.length ≤ 9223372036854775807) : Kd.C (Kd.int .u8) w (some ⟨b, 0, none⟩) xs.length xs := by
  have := hash_C (range_of (pre := []) (cs := hashCells xs) (post := []) (by rw [List.append_nil]; exact h) 0 rfl) hl
  exact this
/-- A row that a call made is one's own. -/
theorem App.of_R {w0 w w1 : World} {v : Value} {l : List Int} (hb : Below w0.heap.size w0 w) (hr : Kd.R (Kd.int .u8) 5 w1 w.heap.size (fun _ => True) v l) (h1 : Below w.heap.size w w1) : App w0 w1 v l :=
  ⟨hb.trans (h1.mono hb.size), Kd.R_lower hr hb.size⟩
theorem App.res {w w0 w1 : World} {v : Value} {l : List Int} (h : App w0 w1 v l) (hb : Below w.heap.size w w0) : Kd.R (Kd.int .u8) 5 w1 w.heap.size (fun _ => True) v l ∧ Below w.heap.size w w1 :=
  ⟨Kd.R_lower h.own hb.size, hb.trans (h.bel.mono hb.size)⟩
theorem refZig_p (n : Int) (h0 : -9223372036854775808 ≤ n) (h1 : n ≤ 9223372036854775807) : estreatref01_Zig.f n = some (zigP n) := by
  unfold estreatref01_Zig.f zigP
  by_cases h : n ≥ 0
  · rw [if_pos h, if_pos h, u64_small n h (by omega), u64_small _ (by omega) (by omega)]
  · have e1 : wrap64 (n + 1) = n + 1 := by unfold wrap64; omega
    have e2 : wrap64 (-(n + 1)) = -(n + 1) := by unfold wrap64; omega
    rw [if_neg h, if_neg h, e1, e2, u64_small (-(n + 1)) (by omega) (by omega), u64_small (2 * -(n + 1)) (by omega) (by omega), u64_small _ (by omega) (by omega)]
    congr 1
    omega
theorem refZig_calls (n : Int) (h0 : -9223372036854775808 ≤ n) (h1 : n ≤ 9223372036854775807) (w : World) : Calls Tryz.prog 111 #[.int .i64 n] w fun e w' => e = .returned (.int .u64 (zigP n)) ∧ Drawn0 w w' :=
  estreatref01_Zig.calls n _ w (refZig_p n h0 h1)
theorem ref_blob39 (s : ByteArray) (B : List Int) (hB : B = varP (txtP s).length ++ txtP s) (A : Option Addr) (c : Nat) (w : World) (hl : (txtP s).length = s.size) (hr : Kd.C (Kd.int .u8) w A (txtP s).length (txtP s)) (hs : s.size < 1000000000) (hc : s.size ≤ c) :
    Calls Tryz.prog 39 #[.slice A s.size c] w fun e w' => ∃ v : Value, e = .returned v ∧ Kd.R (Kd.int .u8) 5 w' w.heap.size (fun _ => True) v B ∧ Below w.heap.size w w' := by
  subst hB
  have := refBlob_calls A c (txtP s) w hr (by omega) (by omega)
  rwa [hl] at this ⊢
set_option maxHeartbeats 3200000 in
set_option maxRecDepth 100000 in
theorem refPut_calls (v : S68) (w : World) (hok : ValOk v) : Calls Tryz.prog 74 #[.agg #[.int .i64 v.f0, .int .i64 v.f1, .string v.f2]] w fun e w' => ∃ q_ : Value, e = .returned q_ ∧ Kd.R (Kd.int .u8) 5 w' w.heap.size (fun _ => True) q_ (valP v) ∧ Below w.heap.size w w' := by
  have HN := Aside0.mk (And.left hok)
  have HS := Aside0.mk (And.right hok)
  have HVL := Aside0.mk (varP_len (zigP v.f1))
  have HZ := Aside0.mk (zigP_range v.f1 (And.left hok).1 (And.left hok).2)
  have HB0 := Aside0.mk (below_alloc (Below.refl w.heap.size w) (.cells #[.int .i64 v.f0, .int .i64 v.f1, .string v.f2] 68))
  have HX0 := Aside0.mk (heap_alloc_new w (.cells #[.int .i64 v.f0, .int .i64 v.f1, .string v.f2] 68))
  have ha0 := App.one (w.alloc (.cells #[.int .i64 v.f0, .int .i64 v.f1, .string v.f2] 68)) (v.f0 % 256)
  rw [show (w.alloc (.cells #[.int .i64 v.f0, .int .i64 v.f1, .string v.f2] 68)).heap.size = w.heap.size + 1 from by simp] at ha0
  have HA0 := Aside0.mk ha0
  have HX1 := Aside0.mk ((HA0.out.bel.block _ (blk_lt HX0.out)).trans HX0.out)
  clear ha0 hok
  by_cases k1 : v.f0 = 1
  · have k1b : (v.f0 == 1) = true := by simpa using k1
    have k2b : (v.f0 == 2) = false := by rw [k1]; rfl
    obtain ⟨T, hT⟩ : ∃ T, T = [v.f0 % 256] ++ varP (zigP v.f1) := ⟨_, rfl⟩
    rw [show valP v = T from by rw [hT, valP, if_pos k1]; rfl]
    have HT := Aside0.mk hT
    clear hT k1
    go_enter Tryz.func74, Tryz.ntmps74
    go_wp2_with fail
    refine (refZig_calls v.f1 HN.out.1 HN.out.2 _).mono ?_
    rintro e w1 ⟨rfl, ⟨nd, rfl⟩⟩
    generalize (w.alloc (.cells #[.int .i64 v.f0, .int .i64 v.f1, .string v.f2] 68)).alloc (.cells #[.int .u8 (v.f0 % 256)] 5) = W8 at *
    have hb1 : Below W8.heap.size W8 (W8.drewN nd) := pw_below_drewN (Below.refl _ _) nd
    have HA1 := Aside0.mk (HA0.out.below hb1)
    have HX2 := Aside0.mk ((hb1.block _ (blk_lt HX1.out)).trans HX1.out)
    clear hb1
    generalize W8.drewN nd = W1 at *
    go_wp2_with fail
    refine (refVar_calls (zigP v.f1) W1 HZ.out.1 HZ.out.2).mono ?_
    rintro e w2 ⟨v2, rfl, hr2, hb2⟩
    obtain ⟨A2, c2, rfl, hl2, hc2⟩ := Kd.R_reads hr2
    have HA2 := Aside0.mk (HA1.out.below hb2)
    have HC2 := Aside0.mk hc2
    have HX3 := Aside0.mk ((hb2.block _ (blk_lt HX2.out)).trans HX2.out)
    clear hr2 hb2 hl2 hc2
    go_wp2_with ((with_reducible refine gate_builtin (b := .append) (xs := #[.tmp 11, .tmp 15]) rfl ?_); at_builtin; refine app_rows rfl (.tmp 11) (.tmp 15) rfl _ [v.f0 % 256] (varP (zigP v.f1)) A2 (varP (zigP v.f1)).length c2 rfl rfl HA2.out HC2.out (by have := HVL.out; simp only [List.length_cons, List.length_nil]; omega) ?_; intro v3 w3 ha3 hk3; rw [← HT.out] at ha3; have HA3 := Aside0.mk ha3; have HX4 := Aside0.mk (Stay.block HA2.out hk3.kept HX3.out (by decide)); clear ha3 hk3; have p0 : w3.cell? ⟨w.heap.size, 0, none⟩ = some (.int .i64 v.f0) := blk_cell HX4.out 0)
    go_ret
    exact ⟨_, rfl, HA3.out.res HB0.out⟩
  by_cases k2 : v.f0 = 2
  · have k1b : (v.f0 == 1) = false := by simpa using k1
    have k2b : (v.f0 == 2) = true := by simpa using k2
    obtain ⟨B, hB⟩ : ∃ B, B = varP (txtP v.f2).length ++ txtP v.f2 := ⟨_, rfl⟩
    obtain ⟨T, hT⟩ : ∃ T, T = [v.f0 % 256] ++ B := ⟨_, rfl⟩
    rw [show valP v = T from by rw [hT, hB, valP, if_neg k1, if_pos k2]; rfl]
    have HB := Aside0.mk hB
    have HBL := Aside0.mk (show B.length < 2000000000 by have h1 := varP_len ((txtP v.f2).length : Int); have h2 := txtP_length v.f2; have h3 := HS.out; rw [hB, List.length_append]; omega)
    clear hB
    have HT := Aside0.mk hT
    clear hT k1 k2
    go_enter Tryz.func74, Tryz.ntmps74
    go_wp2_with fail
    rw [Lib.run_convert_string_bytes _ 9 30 5 v.f2 Tryz.underlying9 Tryz.underlying30 Tryz.underlying5]
    have hbw := below_bytes ((w.alloc (.cells #[.int .i64 v.f0, .int .i64 v.f1, .string v.f2] 68)).alloc (.cells #[.int .u8 (v.f0 % 256)] 5)) v.f2
    have HA1 := Aside0.mk (HA0.out.below hbw)
    have hc1 := txt_C ((w.alloc (.cells #[.int .i64 v.f0, .int .i64 v.f1, .string v.f2] 68)).alloc (.cells #[.int .u8 (v.f0 % 256)] 5)) v.f2 HS.out
    rw [show ((w.alloc (.cells #[.int .i64 v.f0, .int .i64 v.f1, .string v.f2] 68)).alloc (.cells #[.int .u8 (v.f0 % 256)] 5)).heap.size = w.heap.size + 1 + 1 from by simp] at hc1
    have HC1 := Aside0.mk hc1
    clear hc1
    have HTL := Aside0.mk (txtP_length v.f2)
    clear hbw
    generalize Lib.bytesWorld ((w.alloc (.cells #[.int .i64 v.f0, .int .i64 v.f1, .string v.f2] 68)).alloc (.cells #[.int .u8 (v.f0 % 256)] 5)) 5 v.f2 = W1 at *
    go_wp2_with (first | (go_at_call 39; refine (ref_blob39 v.f2 B HB.out _ _ W1 HTL.out HC1.out HS.out (grownCap_ge _ _ _ _)).mono ?_; rintro e w2 ⟨v2, rfl, hr2, hb2⟩; obtain ⟨A2, c2, rfl, hl2, hc2⟩ := Kd.R_reads hr2; have HA2 := Aside0.mk (HA1.out.below hb2); have HC2 := Aside0.mk hc2; clear hr2 hb2 hl2 hc2) | ((with_reducible refine gate_builtin (b := .append) (xs := #[.tmp 20, .tmp 24]) rfl ?_); at_builtin; refine app_rows rfl (.tmp 20) (.tmp 24) rfl _ [v.f0 % 256] B A2 B.length c2 rfl rfl HA2.out HC2.out (by have := HBL.out; simp only [List.length_cons, List.length_nil]; omega) ?_; intro v3 w3 ha3 hk3; rw [← HT.out] at ha3; have HA3 := Aside0.mk ha3; clear ha3 hk3))
    go_ret
    exact ⟨_, rfl, HA3.out.res HB0.out⟩
  · have k1b : (v.f0 == 1) = false := by simpa using k1
    have k2b : (v.f0 == 2) = false := by simpa using k2
    rw [show valP v = [v.f0 % 256] from by rw [valP, if_neg k1, if_neg k2]]
    clear k1 k2
    go_enter Tryz.func74, Tryz.ntmps74
    go_wp2
    go_ret
    exact ⟨_, rfl, HA0.out.res HB0.out⟩
def ls3 (c : S123) (b : Int) : List Int := [IntKind.u8.wrap c.f0, IntKind.u8.wrap b, IntKind.u8.wrap (wrap64 (c.f2 + 1))]
theorem ls3_is (c : S123) (b : Int) (h0 : 0 ≤ b) (h1 : b < 256) : ls3 c b = [c.f0 % 256, b, wrap64 (c.f2 + 1) % 256] := by
  unfold ls3
  rw [IntKind.wrap_u8, IntKind.wrap_u8, IntKind.wrap_u8, show b % 256 = b from by omega]
set_option maxHeartbeats 3200000 in
set_option maxRecDepth 100000 in
theorem refPutSchema_calls (A0 : Option Addr) (c0 : Nat) (s : List S123) (w : World) (hr0 : Kd.C k123 w A0 s.length s) (hc0 : s.length ≤ c0) (hb : s.length < 1000000000) : Calls Tryz.prog 37 #[.slice A0 s.length c0] w fun e w' => ∃ q_ : Value, e = .returned q_ ∧ Kd.R (Kd.int .u8) 5 w' w.heap.size (fun _ => True) q_ (schemaF s) ∧ Below w.heap.size w w' := by
  have HR := Aside0.mk hr0
  have HL := Aside0.mk (schemaL_len s)
  clear hr0
  obtain ⟨T, hT⟩ : ∃ T, T = schemaF s := ⟨_, rfl⟩
  rw [← hT]
  have HT := Aside0.mk hT
  have HTL := Aside0.mk (show T.length = 1 + 3 * s.length by rw [hT, schemaF, List.length_cons, HL.out]; omega)
  clear hT
  go_enter Tryz.func37, Tryz.ntmps37
  go_wp2
  go_loopw [3, 4] (fun v3 v4 w' => ∃ (i : Nat) (y : List Int), i ≤ s.length ∧ v4 = .int .i64 i ∧ Aside0 (App w w' v3 y) ∧ Aside0 (y ++ schemaL (s.drop i) = T)) (fun _ i => fun _ => s.length - (intOf i).toNat)
  case atStart => exact ⟨0, [(s.length : Int) % 256], Nat.zero_le _, rfl, ⟨App.one w _⟩, ⟨by rw [HT.out, List.drop_zero]; rfl⟩⟩
  case round =>
    obtain ⟨i, y, hi, rfl, HY, HE⟩ := hrel
    by_cases hlt : i < s.length
    · obtain ⟨bd, e2, b0, b1, b2⟩ := at_T123 HR.out (i : Int) (by omega) (by omega)
      cases e2
      have he := HE.out
      rw [drop_cons s i z123 hlt, schemaL, colB] at he
      have he2 : y ++ ([(rd_T123 s (i : Int)).f0 % 256, if (rd_T123 s (i : Int)).f1 = true then 1 else 0, wrap64 ((rd_T123 s (i : Int)).f2 + 1) % 256] ++ schemaL (s.drop (i + 1))) = T := he
      generalize rd_T123 s (i : Int) = c at *
      rw [show ((i : Int)).toNat = i from by omega] at b0 b1 b2
      have hyl : y.length < 4000000000 := by
        have := congrArg List.length he2
        rw [List.length_append, HTL.out] at this
        omega
      have HYD := Aside0.mk (HY.out.below (below_drew (Below.refl wr.heap.size wr)))
      have y0 : wr.drew.cell? (bd.add (i * 3)) = some (.int .i64 c.f0) := pw_cell_below HYD.out.bel b0
      have y2 : wr.drew.cell? ⟨(bd.add (i * 3)).block, (bd.add (i * 3)).off + 2, none⟩ = some (.int .i64 c.f2) := pw_cell_below HYD.out.bel b2
      have y1 : wr.cell? ⟨(bd.add (i * 3)).block, (bd.add (i * 3)).off + 1, none⟩ = some (.bool c.f1) := pw_cell_below HY.out.bel b1
      have HE2 := Aside0.mk he2
      have B0 := Aside0.mk b0
      have B2 := Aside0.mk b2
      clear he he2 HE b1 b0 b2
      cases hn : c.f1 with
      | false =>
        rw [hn] at y1
        have HN := Aside0.mk hn
        clear hn
        go_wp2_with fail
        clear y1
        refine start_ (n := 19) (S := fun w' => w'.cell? (bd.add (i * 3)) = some (.int .i64 c.f0) ∧ w'.cell? ⟨(bd.add (i * 3)).block, (bd.add (i * 3)).off + 2, none⟩ = some (.int .i64 c.f2)) (ds := []) #[false, false, false, false, false, false, false, false, false, false, false, false, false, false, false, false, false, false, false] (by kernel_rfl) rfl rfl ⟨y0, y2⟩ (fun hHeld => ?_)
        generalize wr.drew = WD at *
        refine pure_ (i := 0) (N := some 21) (v := ?_) (a' := ?_) #[true, false, false, false, false, false, false, false, false, false, false, false, false, false, false, false, false, false, false] rfl rfl (by kernel_rfl) (fun _ _ _ h => h) (Or.inl ⟨by rfl, ?_⟩) ?_ ?_
        rotate_left
        · intro w'
          go_simp
          with_reducible rfl
        rotate_left
        · simp only [Act.put, List.setIfInBounds_toArray, List.set_cons_zero, List.set_cons_succ, i64_w, i32_w]
          rfl
        refine pure_ (i := 1) (N := some 22) (v := ?_) (a' := ?_) #[true, true, false, false, false, false, false, false, false, false, false, false, false, false, false, false, false, false, false] rfl rfl (by kernel_rfl) (fun _ _ _ h => h) (Or.inl ⟨by rfl, ?_⟩) ?_ ?_
        rotate_left
        · intro w'
          go_simp
          with_reducible rfl
        rotate_left
        · simp only [Act.put, List.setIfInBounds_toArray, List.set_cons_zero, List.set_cons_succ, i64_w, i32_w]
          rfl
        refine pure_ (i := 2) (N := some 23) (v := ?_) (a' := ?_) #[true, true, true, false, false, false, false, false, false, false, false, false, false, false, false, false, false, false, false] rfl rfl (by kernel_rfl) (fun _ _ _ h => h) (Or.inl ⟨by rfl, ?_⟩) ?_ ?_
        rotate_left
        · intro w'
          go_simp
          with_reducible rfl
        rotate_left
        · simp only [Act.put, List.setIfInBounds_toArray, List.set_cons_zero, List.set_cons_succ, i64_w, i32_w]
          rfl
        refine pure_ (i := 3) (N := some 24) (v := ?_) (a' := ?_) #[true, true, true, true, false, false, false, false, false, false, false, false, false, false, false, false, false, false, false] rfl rfl (by kernel_rfl) (fun _ _ _ h => h) (Or.inl ⟨by rfl, ?_⟩) ?_ ?_
        rotate_left
        · intro w'
          go_simp
          with_reducible rfl
        rotate_left
        · simp only [Act.put, List.setIfInBounds_toArray, List.set_cons_zero, List.set_cons_succ, i64_w, i32_w]
          rfl
        refine pure_ (i := 4) (N := some 25) (v := ?_) (a' := ?_) #[true, true, true, true, true, false, false, false, false, false, false, false, false, false, false, false, false, false, false] rfl rfl (by kernel_rfl) (fun _ _ _ h => h) (Or.inl ⟨by rfl, ?_⟩) ?_ ?_
        rotate_left
        · intro w'
          go_simp
          with_reducible rfl
        rotate_left
        · simp only [Act.put, List.setIfInBounds_toArray, List.set_cons_zero, List.set_cons_succ, i64_w, i32_w]
          rfl
        refine pure_ (i := 7) (N := some 28) (v := ?_) (a' := ?_) #[true, true, true, true, true, false, false, true, false, false, false, false, false, false, false, false, false, false, false] rfl rfl (by kernel_rfl) (fun _ _ _ h => h) (Or.inl ⟨by rfl, ?_⟩) ?_ ?_
        rotate_left
        · intro w'
          go_simp
          with_reducible rfl
        rotate_left
        · simp only [Act.put, List.setIfInBounds_toArray, List.set_cons_zero, List.set_cons_succ, i64_w, i32_w]
          rfl
        refine pure_ (i := 8) (N := some 29) (v := ?_) (a' := ?_) #[true, true, true, true, true, false, false, true, true, false, false, false, false, false, false, false, false, false, false] rfl rfl (by kernel_rfl) (fun _ _ _ h => h) (Or.inl ⟨by rfl, ?_⟩) ?_ ?_
        rotate_left
        · intro w'
          go_simp
          with_reducible rfl
        rotate_left
        · simp only [Act.put, List.setIfInBounds_toArray, List.set_cons_zero, List.set_cons_succ, i64_w, i32_w]
          rfl
        refine pure_ (i := 9) (N := some 30) (v := ?_) (a' := ?_) #[true, true, true, true, true, false, false, true, true, true, false, false, false, false, false, false, false, false, false] rfl rfl (by kernel_rfl) (fun _ _ _ h => h) (Or.inl ⟨by rfl, ?_⟩) ?_ ?_
        rotate_left
        · intro w'
          go_simp
          with_reducible rfl
        rotate_left
        · simp only [Act.put, List.setIfInBounds_toArray, List.set_cons_zero, List.set_cons_succ, i64_w, i32_w]
          rfl
        refine pure_ (i := 10) (N := some 31) (v := ?_) (a' := ?_) #[true, true, true, true, true, false, false, true, true, true, true, false, false, false, false, false, false, false, false] rfl rfl (by kernel_rfl) (fun _ _ _ h => h) (Or.inl ⟨by rfl, ?_⟩) ?_ ?_
        rotate_left
        · intro w'
          go_simp
          with_reducible rfl
        rotate_left
        · simp only [Act.put, List.setIfInBounds_toArray, List.set_cons_zero, List.set_cons_succ, i64_w, i32_w]
          rfl
        refine pure_ (i := 11) (N := some 32) (v := ?_) (a' := ?_) #[true, true, true, true, true, false, false, true, true, true, true, true, false, false, false, false, false, false, false] rfl rfl (by kernel_rfl) (fun _ _ _ h => h) (Or.inl ⟨by rfl, ?_⟩) ?_ ?_
        rotate_left
        · intro w'
          go_simp
          with_reducible rfl
        rotate_left
        · simp only [Act.put, List.setIfInBounds_toArray, List.set_cons_zero, List.set_cons_succ, i64_w, i32_w]
          rfl
        refine pure_ (i := 12) (N := some 33) (v := ?_) (a' := ?_) #[true, true, true, true, true, false, false, true, true, true, true, true, true, false, false, false, false, false, false] rfl rfl (by kernel_rfl) (fun _ _ _ h => h) (Or.inl ⟨by rfl, ?_⟩) ?_ ?_
        rotate_left
        · intro w'
          go_simp
          with_reducible rfl
        rotate_left
        · simp only [Act.put, List.setIfInBounds_toArray, List.set_cons_zero, List.set_cons_succ, i64_w, i32_w]
          rfl
        refine take_ (i := 5) (N := some 26) (v := ?_) (a' := ?_) #[true, true, true, true, true, true, false, true, true, true, true, true, true, false, false, false, false, false, false] rfl rfl (by kernel_rfl) (fun _ _ _ h => h) (Or.inl ⟨by rfl, ?_⟩) hHeld ?_ ?_
        rotate_left
        · rintro w' ⟨s0, s1⟩
          go_simp
          with_reducible rfl
        rotate_left
        · simp only [Act.put, List.setIfInBounds_toArray, List.set_cons_zero, List.set_cons_succ, i64_w, i32_w]
          rfl
        refine pure_ (i := 6) (N := some 27) (v := ?_) (a' := ?_) #[true, true, true, true, true, true, true, true, true, true, true, true, true, false, false, false, false, false, false] rfl rfl (by kernel_rfl) (fun _ _ _ h => h) (Or.inl ⟨by rfl, ?_⟩) ?_ ?_
        rotate_left
        · intro w'
          go_simp
          with_reducible rfl
        rotate_left
        · simp only [Act.put, List.setIfInBounds_toArray, List.set_cons_zero, List.set_cons_succ, i64_w, i32_w]
          rfl
        refine take_ (i := 13) (N := some 34) (v := ?_) (a' := ?_) #[true, true, true, true, true, true, true, true, true, true, true, true, true, true, false, false, false, false, false] rfl rfl (by kernel_rfl) (fun _ _ _ h => h) (Or.inl ⟨by rfl, ?_⟩) hHeld ?_ ?_
        rotate_left
        · rintro w' ⟨s0, s1⟩
          go_simp
          with_reducible rfl
        rotate_left
        · simp only [Act.put, List.setIfInBounds_toArray, List.set_cons_zero, List.set_cons_succ, i64_w, i32_w]
          rfl
        refine pure_ (i := 14) (N := some 35) (v := ?_) (a' := ?_) #[true, true, true, true, true, true, true, true, true, true, true, true, true, true, true, false, false, false, false] rfl rfl (by kernel_rfl) (fun _ _ _ h => h) (Or.inl ⟨by rfl, ?_⟩) ?_ ?_
        rotate_left
        · intro w'
          go_simp
          with_reducible rfl
        rotate_left
        · simp only [Act.put, List.setIfInBounds_toArray, List.set_cons_zero, List.set_cons_succ, i64_w, i32_w]
          rfl
        refine pure_ (i := 15) (N := some 36) (v := ?_) (a' := ?_) #[true, true, true, true, true, true, true, true, true, true, true, true, true, true, true, true, false, false, false] rfl rfl (by kernel_rfl) (fun _ _ _ h => h) (Or.inl ⟨by rfl, ?_⟩) ?_ ?_
        rotate_left
        · intro w'
          go_simp
          with_reducible rfl
        rotate_left
        · simp only [Act.put, List.setIfInBounds_toArray, List.set_cons_zero, List.set_cons_succ, i64_w, i32_w]
          rfl
        refine one_ (i := 16) (N := some 37) #[true, true, true, true, true, true, true, true, true, true, true, true, true, true, true, true, true, false, false] rfl rfl (by kernel_rfl) (by decide) (fun K hK => ?_)
        refine value_ (w1 := ?_) (v := ?_) (by rfl) rfl ?_ ?_
        rotate_left 2
        · go_simp
          constructor
          · rfl
          · rfl
        have HA6 := Aside0.mk (HYD.out.below (below_alloc (Below.refl _ _) (.cells #[.int .u8 (IntKind.u8.wrap c.f0), .int .u8 (IntKind.u8.wrap 0), .int .u8 (IntKind.u8.wrap (wrap64 (c.f2 + 1)))] 5)))
        have HC6 := Aside0.mk (bytes_C (xs := ls3 c 0) (heap_alloc_new WD (.cells #[.int .u8 (IntKind.u8.wrap c.f0), .int .u8 (IntKind.u8.wrap 0), .int .u8 (IntKind.u8.wrap (wrap64 (c.f2 + 1)))] 5)) (by simp [ls3]))
        generalize WD.alloc (.cells #[.int .u8 (IntKind.u8.wrap c.f0), .int .u8 (IntKind.u8.wrap 0), .int .u8 (IntKind.u8.wrap (wrap64 (c.f2 + 1)))] 5) = W6 at *
        refine hK.out _ _ ⟨pw_cell_below HA6.out.bel B0.out, pw_cell_below HA6.out.bel B2.out⟩ (fun hHeld => ?_)
        clear hK K
        refine norm_ (a' := ?_) ?_ ?_
        rotate_left
        · show Act.put _ (some 37) _ = _
          simp only [Act.put, List.setIfInBounds_toArray, List.set_cons_zero, List.set_cons_succ, i64_w, i32_w]
          rfl
        refine one_ (i := 17) (N := some 38) #[true, true, true, true, true, true, true, true, true, true, true, true, true, true, true, true, true, true, false] rfl rfl (by kernel_rfl) (by decide) (fun K hK => ?_)
        refine app_rows_step (by rfl) (.tmp 21) (.tmp 37) (by rfl) u3 y (ls3 c 0) (some ⟨WD.heap.size, 0, none⟩) 3 3 rfl rfl HA6.out HC6.out (by omega) ?_
        intro v7 w7 ha7 hk7
        rw [ls3_is c 0 (by decide) (by decide)] at ha7
        have HA7 := Aside0.mk ha7
        clear ha7 hk7
        refine hK.out _ _ ⟨pw_cell_below HA7.out.bel B0.out, pw_cell_below HA7.out.bel B2.out⟩ (fun hHeld => ?_)
        clear hK K
        refine norm_ (a' := ?_) ?_ ?_
        rotate_left
        · show Act.put _ (some 38) _ = _
          simp only [Act.put, List.setIfInBounds_toArray, List.set_cons_zero, List.set_cons_succ, i64_w, i32_w]
          rfl
        refine pure_ (i := 18) (N := some 3) (v := ?_) (a' := ?_) #[true, true, true, true, true, true, true, true, true, true, true, true, true, true, true, true, true, true, true] rfl rfl (by kernel_rfl) (fun _ _ _ h => h) (Or.inl ⟨by rfl, ?_⟩) ?_ ?_
        rotate_left
        · intro w'
          go_simp
          with_reducible rfl
        rotate_left
        · simp only [Act.put, List.setIfInBounds_toArray, List.set_cons_zero, List.set_cons_succ, i64_w, i32_w]
          rfl
        refine done_ (by kernel_rfl) ?_
        go_wp2
        go_roundw
        case rel => exact ⟨i + 1, _, by omega, by go_num, HA7, ⟨by rw [← HE2.out, HN.out, if_neg (by decide), List.append_assoc]⟩⟩
        case measure => simp [intOf]; omega
      | true =>
        rw [hn] at y1
        have HN := Aside0.mk hn
        clear hn
        go_wp2_with fail
        clear y1
        refine start_ (n := 19) (S := fun w' => w'.cell? (bd.add (i * 3)) = some (.int .i64 c.f0) ∧ w'.cell? ⟨(bd.add (i * 3)).block, (bd.add (i * 3)).off + 2, none⟩ = some (.int .i64 c.f2)) (ds := []) #[false, false, false, false, false, false, false, false, false, false, false, false, false, false, false, false, false, false, false] (by kernel_rfl) rfl rfl ⟨y0, y2⟩ (fun hHeld => ?_)
        generalize wr.drew = WD at *
        refine pure_ (i := 0) (N := some 21) (v := ?_) (a' := ?_) #[true, false, false, false, false, false, false, false, false, false, false, false, false, false, false, false, false, false, false] rfl rfl (by kernel_rfl) (fun _ _ _ h => h) (Or.inl ⟨by rfl, ?_⟩) ?_ ?_
        rotate_left
        · intro w'
          go_simp
          with_reducible rfl
        rotate_left
        · simp only [Act.put, List.setIfInBounds_toArray, List.set_cons_zero, List.set_cons_succ, i64_w, i32_w]
          rfl
        refine pure_ (i := 1) (N := some 22) (v := ?_) (a' := ?_) #[true, true, false, false, false, false, false, false, false, false, false, false, false, false, false, false, false, false, false] rfl rfl (by kernel_rfl) (fun _ _ _ h => h) (Or.inl ⟨by rfl, ?_⟩) ?_ ?_
        rotate_left
        · intro w'
          go_simp
          with_reducible rfl
        rotate_left
        · simp only [Act.put, List.setIfInBounds_toArray, List.set_cons_zero, List.set_cons_succ, i64_w, i32_w]
          rfl
        refine pure_ (i := 2) (N := some 23) (v := ?_) (a' := ?_) #[true, true, true, false, false, false, false, false, false, false, false, false, false, false, false, false, false, false, false] rfl rfl (by kernel_rfl) (fun _ _ _ h => h) (Or.inl ⟨by rfl, ?_⟩) ?_ ?_
        rotate_left
        · intro w'
          go_simp
          with_reducible rfl
        rotate_left
        · simp only [Act.put, List.setIfInBounds_toArray, List.set_cons_zero, List.set_cons_succ, i64_w, i32_w]
          rfl
        refine pure_ (i := 3) (N := some 24) (v := ?_) (a' := ?_) #[true, true, true, true, false, false, false, false, false, false, false, false, false, false, false, false, false, false, false] rfl rfl (by kernel_rfl) (fun _ _ _ h => h) (Or.inl ⟨by rfl, ?_⟩) ?_ ?_
        rotate_left
        · intro w'
          go_simp
          with_reducible rfl
        rotate_left
        · simp only [Act.put, List.setIfInBounds_toArray, List.set_cons_zero, List.set_cons_succ, i64_w, i32_w]
          rfl
        refine pure_ (i := 4) (N := some 25) (v := ?_) (a' := ?_) #[true, true, true, true, true, false, false, false, false, false, false, false, false, false, false, false, false, false, false] rfl rfl (by kernel_rfl) (fun _ _ _ h => h) (Or.inl ⟨by rfl, ?_⟩) ?_ ?_
        rotate_left
        · intro w'
          go_simp
          with_reducible rfl
        rotate_left
        · simp only [Act.put, List.setIfInBounds_toArray, List.set_cons_zero, List.set_cons_succ, i64_w, i32_w]
          rfl
        refine pure_ (i := 7) (N := some 28) (v := ?_) (a' := ?_) #[true, true, true, true, true, false, false, true, false, false, false, false, false, false, false, false, false, false, false] rfl rfl (by kernel_rfl) (fun _ _ _ h => h) (Or.inl ⟨by rfl, ?_⟩) ?_ ?_
        rotate_left
        · intro w'
          go_simp
          with_reducible rfl
        rotate_left
        · simp only [Act.put, List.setIfInBounds_toArray, List.set_cons_zero, List.set_cons_succ, i64_w, i32_w]
          rfl
        refine pure_ (i := 8) (N := some 29) (v := ?_) (a' := ?_) #[true, true, true, true, true, false, false, true, true, false, false, false, false, false, false, false, false, false, false] rfl rfl (by kernel_rfl) (fun _ _ _ h => h) (Or.inl ⟨by rfl, ?_⟩) ?_ ?_
        rotate_left
        · intro w'
          go_simp
          with_reducible rfl
        rotate_left
        · simp only [Act.put, List.setIfInBounds_toArray, List.set_cons_zero, List.set_cons_succ, i64_w, i32_w]
          rfl
        refine pure_ (i := 9) (N := some 30) (v := ?_) (a' := ?_) #[true, true, true, true, true, false, false, true, true, true, false, false, false, false, false, false, false, false, false] rfl rfl (by kernel_rfl) (fun _ _ _ h => h) (Or.inl ⟨by rfl, ?_⟩) ?_ ?_
        rotate_left
        · intro w'
          go_simp
          with_reducible rfl
        rotate_left
        · simp only [Act.put, List.setIfInBounds_toArray, List.set_cons_zero, List.set_cons_succ, i64_w, i32_w]
          rfl
        refine pure_ (i := 10) (N := some 31) (v := ?_) (a' := ?_) #[true, true, true, true, true, false, false, true, true, true, true, false, false, false, false, false, false, false, false] rfl rfl (by kernel_rfl) (fun _ _ _ h => h) (Or.inl ⟨by rfl, ?_⟩) ?_ ?_
        rotate_left
        · intro w'
          go_simp
          with_reducible rfl
        rotate_left
        · simp only [Act.put, List.setIfInBounds_toArray, List.set_cons_zero, List.set_cons_succ, i64_w, i32_w]
          rfl
        refine pure_ (i := 11) (N := some 32) (v := ?_) (a' := ?_) #[true, true, true, true, true, false, false, true, true, true, true, true, false, false, false, false, false, false, false] rfl rfl (by kernel_rfl) (fun _ _ _ h => h) (Or.inl ⟨by rfl, ?_⟩) ?_ ?_
        rotate_left
        · intro w'
          go_simp
          with_reducible rfl
        rotate_left
        · simp only [Act.put, List.setIfInBounds_toArray, List.set_cons_zero, List.set_cons_succ, i64_w, i32_w]
          rfl
        refine pure_ (i := 12) (N := some 33) (v := ?_) (a' := ?_) #[true, true, true, true, true, false, false, true, true, true, true, true, true, false, false, false, false, false, false] rfl rfl (by kernel_rfl) (fun _ _ _ h => h) (Or.inl ⟨by rfl, ?_⟩) ?_ ?_
        rotate_left
        · intro w'
          go_simp
          with_reducible rfl
        rotate_left
        · simp only [Act.put, List.setIfInBounds_toArray, List.set_cons_zero, List.set_cons_succ, i64_w, i32_w]
          rfl
        refine take_ (i := 5) (N := some 26) (v := ?_) (a' := ?_) #[true, true, true, true, true, true, false, true, true, true, true, true, true, false, false, false, false, false, false] rfl rfl (by kernel_rfl) (fun _ _ _ h => h) (Or.inl ⟨by rfl, ?_⟩) hHeld ?_ ?_
        rotate_left
        · rintro w' ⟨s0, s1⟩
          go_simp
          with_reducible rfl
        rotate_left
        · simp only [Act.put, List.setIfInBounds_toArray, List.set_cons_zero, List.set_cons_succ, i64_w, i32_w]
          rfl
        refine pure_ (i := 6) (N := some 27) (v := ?_) (a' := ?_) #[true, true, true, true, true, true, true, true, true, true, true, true, true, false, false, false, false, false, false] rfl rfl (by kernel_rfl) (fun _ _ _ h => h) (Or.inl ⟨by rfl, ?_⟩) ?_ ?_
        rotate_left
        · intro w'
          go_simp
          with_reducible rfl
        rotate_left
        · simp only [Act.put, List.setIfInBounds_toArray, List.set_cons_zero, List.set_cons_succ, i64_w, i32_w]
          rfl
        refine take_ (i := 13) (N := some 34) (v := ?_) (a' := ?_) #[true, true, true, true, true, true, true, true, true, true, true, true, true, true, false, false, false, false, false] rfl rfl (by kernel_rfl) (fun _ _ _ h => h) (Or.inl ⟨by rfl, ?_⟩) hHeld ?_ ?_
        rotate_left
        · rintro w' ⟨s0, s1⟩
          go_simp
          with_reducible rfl
        rotate_left
        · simp only [Act.put, List.setIfInBounds_toArray, List.set_cons_zero, List.set_cons_succ, i64_w, i32_w]
          rfl
        refine pure_ (i := 14) (N := some 35) (v := ?_) (a' := ?_) #[true, true, true, true, true, true, true, true, true, true, true, true, true, true, true, false, false, false, false] rfl rfl (by kernel_rfl) (fun _ _ _ h => h) (Or.inl ⟨by rfl, ?_⟩) ?_ ?_
        rotate_left
        · intro w'
          go_simp
          with_reducible rfl
        rotate_left
        · simp only [Act.put, List.setIfInBounds_toArray, List.set_cons_zero, List.set_cons_succ, i64_w, i32_w]
          rfl
        refine pure_ (i := 15) (N := some 36) (v := ?_) (a' := ?_) #[true, true, true, true, true, true, true, true, true, true, true, true, true, true, true, true, false, false, false] rfl rfl (by kernel_rfl) (fun _ _ _ h => h) (Or.inl ⟨by rfl, ?_⟩) ?_ ?_
        rotate_left
        · intro w'
          go_simp
          with_reducible rfl
        rotate_left
        · simp only [Act.put, List.setIfInBounds_toArray, List.set_cons_zero, List.set_cons_succ, i64_w, i32_w]
          rfl
        refine one_ (i := 16) (N := some 37) #[true, true, true, true, true, true, true, true, true, true, true, true, true, true, true, true, true, false, false] rfl rfl (by kernel_rfl) (by decide) (fun K hK => ?_)
        refine value_ (w1 := ?_) (v := ?_) (by rfl) rfl ?_ ?_
        rotate_left 2
        · go_simp
          constructor
          · rfl
          · rfl
        have HA6 := Aside0.mk (HYD.out.below (below_alloc (Below.refl _ _) (.cells #[.int .u8 (IntKind.u8.wrap c.f0), .int .u8 (IntKind.u8.wrap 1), .int .u8 (IntKind.u8.wrap (wrap64 (c.f2 + 1)))] 5)))
        have HC6 := Aside0.mk (bytes_C (xs := ls3 c 1) (heap_alloc_new WD (.cells #[.int .u8 (IntKind.u8.wrap c.f0), .int .u8 (IntKind.u8.wrap 1), .int .u8 (IntKind.u8.wrap (wrap64 (c.f2 + 1)))] 5)) (by simp [ls3]))
        generalize WD.alloc (.cells #[.int .u8 (IntKind.u8.wrap c.f0), .int .u8 (IntKind.u8.wrap 1), .int .u8 (IntKind.u8.wrap (wrap64 (c.f2 + 1)))] 5) = W6 at *
        refine hK.out _ _ ⟨pw_cell_below HA6.out.bel B0.out, pw_cell_below HA6.out.bel B2.out⟩ (fun hHeld => ?_)
        clear hK K
        refine norm_ (a' := ?_) ?_ ?_
        rotate_left
        · show Act.put _ (some 37) _ = _
          simp only [Act.put, List.setIfInBounds_toArray, List.set_cons_zero, List.set_cons_succ, i64_w, i32_w]
          rfl
        refine one_ (i := 17) (N := some 38) #[true, true, true, true, true, true, true, true, true, true, true, true, true, true, true, true, true, true, false] rfl rfl (by kernel_rfl) (by decide) (fun K hK => ?_)
        refine app_rows_step (by rfl) (.tmp 21) (.tmp 37) (by rfl) u3 y (ls3 c 1) (some ⟨WD.heap.size, 0, none⟩) 3 3 rfl rfl HA6.out HC6.out (by omega) ?_
        intro v7 w7 ha7 hk7
        rw [ls3_is c 1 (by decide) (by decide)] at ha7
        have HA7 := Aside0.mk ha7
        clear ha7 hk7
        refine hK.out _ _ ⟨pw_cell_below HA7.out.bel B0.out, pw_cell_below HA7.out.bel B2.out⟩ (fun hHeld => ?_)
        clear hK K
        refine norm_ (a' := ?_) ?_ ?_
        rotate_left
        · show Act.put _ (some 38) _ = _
          simp only [Act.put, List.setIfInBounds_toArray, List.set_cons_zero, List.set_cons_succ, i64_w, i32_w]
          rfl
        refine pure_ (i := 18) (N := some 3) (v := ?_) (a' := ?_) #[true, true, true, true, true, true, true, true, true, true, true, true, true, true, true, true, true, true, true] rfl rfl (by kernel_rfl) (fun _ _ _ h => h) (Or.inl ⟨by rfl, ?_⟩) ?_ ?_
        rotate_left
        · intro w'
          go_simp
          with_reducible rfl
        rotate_left
        · simp only [Act.put, List.setIfInBounds_toArray, List.set_cons_zero, List.set_cons_succ, i64_w, i32_w]
          rfl
        refine done_ (by kernel_rfl) ?_
        go_wp2
        go_roundw
        case rel => exact ⟨i + 1, _, by omega, by go_num, HA7, ⟨by rw [← HE2.out, HN.out, if_pos rfl, List.append_assoc]⟩⟩
        case measure => simp [intOf]; omega
    · obtain rfl : i = s.length := by omega
      have he := HE.out
      rw [List.drop_eq_nil_of_le (Nat.le_refl _), schemaL, List.append_nil] at he
      subst he
      go_wp2
      go_ret
      exact ⟨_, rfl, HY.out.res (Below.refl _ _)⟩
set_option maxHeartbeats 3200000 in
set_option maxRecDepth 100000 in
theorem bytesOf_calls (h : List Int) (hl : h.length = 32) (w : World) : Calls Tryz.prog 75 #[.agg (hashCells h).toArray] w fun e w' => ∃ q_ : Value, e = .returned q_ ∧ Kd.R (Kd.int .u8) 5 w' w.heap.size (fun _ => True) q_ (h) ∧ Below w.heap.size w w' := by
  have hc : ∀ i, i < 32 → (hashCells h).toArray[i]? = some (.int .u8 (h.getD i 0)) := fun i hi => by
    rw [List.getElem?_toArray, hashCells, List.getElem?_map, List.getElem?_eq_getElem (by omega), List.getD_eq_getElem?_getD, List.getElem?_eq_getElem (by omega)]
    rfl
  have HC := Aside0.mk hc
  have HL := Aside0.mk hl
  clear hc hl
  generalize (hashCells h).toArray = cc at *
  go_enter Tryz.func75, Tryz.ntmps75
  go_wp2
  have HX0 := Aside0.mk (heap_alloc_new w (.cells cc 61))
  have HB0 := Aside0.mk (below_alloc (Below.refl w.heap.size w) (.cells cc 61))
  generalize w.alloc (.cells cc 61) = W0 at *
  go_loopw [3, 4] (fun v3 v4 w' => ∃ i : Nat, i ≤ 32 ∧ v4 = .int .i64 i ∧ Aside0 (App W0 w' v3 (h.take i))) (fun _ i => fun _ => 32 - (intOf i).toNat)
  case atStart => exact ⟨0, Nat.zero_le _, rfl, ⟨App.nil W0⟩⟩
  case round =>
    obtain ⟨i, hi, rfl, HY⟩ := hrel
    by_cases hlt : i < 32
    · have p0 : wr.cell? ⟨w.heap.size, i, none⟩ = some (.int .u8 (h.getD i 0)) := (blk_cell ((HY.out.bel.block _ (blk_lt HX0.out)).trans HX0.out) i).trans (HC.out i hlt)
      have hll : (h.take i).length ≤ 32 := by rw [List.length_take]; omega
      have HTK := Aside0.mk (show h.take (i + 1) = h.take i ++ [h.getD i 0] by rw [List.take_succ_eq_append_getElem (by rw [HL.out]; exact hlt), List.getD_eq_getElem?_getD, List.getElem?_eq_getElem (by rw [HL.out]; exact hlt)]; rfl)
      generalize h.getD i 0 = x at *
      have HA1 := Aside0.mk (HY.out.below (below_alloc (Below.refl _ _) (.cells #[.int .u8 x] 5)))
      have HC1 := Aside0.mk (one_C (heap_alloc_new wr (.cells #[.int .u8 x] 5)))
      have hi1 : (0 : Int) ≤ (i : Int) := by omega
      have hi2 : (i : Int) < 32 := by omega
      go_wp2_with (((with_reducible refine gate_builtin (b := .append) (xs := #[.tmp 9, .tmp 13]) rfl ?_); at_builtin; refine app_rows rfl (.tmp 9) (.tmp 13) rfl _ (h.take i) [x] (some ⟨wr.heap.size, 0, none⟩) 1 1 rfl rfl HA1.out HC1.out (by omega) ?_; intro v2 w2 ha2 hk2; have HA2 := Aside0.mk ha2; clear ha2 hk2))
      go_roundw
      case rel => exact ⟨i + 1, by omega, by go_num, ⟨by rw [HTK.out]; exact HA2.out⟩⟩
      case measure => simp [intOf]; omega
    · obtain rfl : i = 32 := by omega
      go_wp2
      go_ret
      refine ⟨_, rfl, ?_⟩
      have := HY.out.res HB0.out
      rwa [List.take_of_length_le (by rw [HL.out]; exact Nat.le_refl _)] at this
set_option maxHeartbeats 3200000 in
set_option maxRecDepth 100000 in
theorem refEntPut_calls (x : En) (h1 : x.s.length = 32) (h2 : x.r.length = 32) (h0 : 0 ≤ x.g) (h3 : x.g ≤ 1048576) (w : World) : Calls Tryz.prog 41 #[.agg (enCells x).toArray] w fun e w' => ∃ q_ : Value, e = .returned q_ ∧ Kd.R (Kd.int .u8) 5 w' w.heap.size (fun _ => True) q_ (entP x) ∧ Below w.heap.size w w' := by
  have HRA := fun (W : World) (h : W.heap[w.heap.size]? = some (.cells (enCells x).toArray 81 (0, 0))) => range_of (pre := []) (cs := hashCells x.s) (post := .int .i64 x.g :: hashCells x.r) h 0 rfl
  have HRB := fun (W : World) (h : W.heap[w.heap.size]? = some (.cells (enCells x).toArray 81 (0, 0))) => range_of (pre := hashCells x.s ++ [.int .i64 x.g]) (cs := hashCells x.r) (post := []) (by rw [List.append_nil, List.append_assoc]; exact h) 33 (by rw [List.length_append, hashCells, List.length_map, h1]; rfl)
  have i32 : (enCells x).toArray[32]? = some (.int .i64 x.g) := by
    rw [List.getElem?_toArray, enCells, List.getElem?_append_right (by rw [hashCells, List.length_map]; omega), show (hashCells x.s).length = 32 from by rw [hashCells, List.length_map, h1]]
    rfl
  have I32 := Aside0.mk i32
  have HL1 := Aside0.mk (show (hashCells x.s).length = 32 by rw [hashCells, List.length_map, h1])
  have HL2 := Aside0.mk (show (hashCells x.r).length = 32 by rw [hashCells, List.length_map, h2])
  have H1 := Aside0.mk h1
  have H2 := Aside0.mk h2
  have HRA := Aside0.mk HRA
  have HRB := Aside0.mk HRB
  have hvl := varP_len x.g
  obtain ⟨T, hT⟩ : ∃ T, T = entP x := ⟨_, rfl⟩
  rw [← hT]
  obtain ⟨y1, hy1⟩ : ∃ y1, y1 = x.s ++ varP x.g := ⟨_, rfl⟩
  have HT := Aside0.mk (show y1 ++ x.r = T by rw [hT, hy1, entP])
  have HY1 := Aside0.mk hy1
  have hyl : y1.length ≤ 42 := by rw [hy1, List.length_append, h1]; omega
  have HLN := Aside0.mk (show x.s.length + (varP x.g).length ≤ 42 by rw [h1]; omega)
  clear hT hy1 i32 h1 h2
  generalize (enCells x).toArray = cc at *
  go_enter Tryz.func41, Tryz.ntmps41
  go_wp2_with fail
  have HX0 : Aside0 ((w.alloc (.cells cc 81)).drew.heap[w.heap.size]? = some (.cells cc 81 (0, 0))) := Aside0.mk (heap_alloc_new w (.cells cc 81))
  have HB0 := Aside0.mk (below_drew (below_alloc (Below.refl w.heap.size w) (.cells cc 81)))
  have c32 := (blk_cell HX0.out 32).trans I32.out
  have hra := HRA.out _ HX0.out
  refine start_ (n := 9) (S := fun w' => w'.cell? ⟨w.heap.size, 32, none⟩ = some (.int .i64 x.g) ∧ w'.rangeAt w.heap.size 0 (hashCells x.s)) (ds := []) #[false, false, false, false, false, false, false, false, false] (by kernel_rfl) rfl rfl ⟨c32, hra⟩ (fun hHeld => ?_)
  generalize (w.alloc (.cells cc 81)).drew = W2 at *
  refine pure_ (i := 0) (N := some 4) (v := ?_) (a' := ?_) #[true, false, false, false, false, false, false, false, false] rfl rfl (by kernel_rfl) (fun _ _ _ h => h) (Or.inl ⟨by rfl, ?_⟩) ?_ ?_
  rotate_left
  · intro w'
    go_simp
    with_reducible rfl
  rotate_left
  · simp only [Act.put, List.setIfInBounds_toArray, List.set_cons_zero, List.set_cons_succ, i64_w, i32_w]
    rfl
  refine pure_ (i := 3) (N := some 7) (v := ?_) (a' := ?_) #[true, false, false, true, false, false, false, false, false] rfl rfl (by kernel_rfl) (fun _ _ _ h => h) (Or.inl ⟨by rfl, ?_⟩) ?_ ?_
  rotate_left
  · intro w'
    go_simp
    with_reducible rfl
  rotate_left
  · simp only [Act.put, List.setIfInBounds_toArray, List.set_cons_zero, List.set_cons_succ, i64_w, i32_w]
    rfl
  refine take_ (i := 1) (N := some 5) (v := ?_) (a' := ?_) #[true, true, false, true, false, false, false, false, false] rfl rfl (by kernel_rfl) (fun _ _ _ h => h) (Or.inl ⟨by rfl, ?_⟩) hHeld ?_ ?_
  rotate_left
  · rintro w' ⟨s0, s1⟩
    refine exec_load_mid 61 (.tmp 4) ?_ w.heap.size 0 ?_ (hashCells x.s) _ s1 Tryz.underlying61 rfl ?_
    · rfl
    · rfl
    · rw [HL1.out]; kernel_rfl
  rotate_left
  · simp only [Act.put, List.setIfInBounds_toArray, List.set_cons_zero, List.set_cons_succ, i64_w, i32_w]
    rfl
  refine take_ (i := 4) (N := some 8) (v := ?_) (a' := ?_) #[true, true, false, true, true, false, false, false, false] rfl rfl (by kernel_rfl) (fun _ _ _ h => h) (Or.inl ⟨by rfl, ?_⟩) hHeld ?_ ?_
  rotate_left
  · rintro w' ⟨s0, s1⟩
    go_simp
    with_reducible rfl
  rotate_left
  · simp only [Act.put, List.setIfInBounds_toArray, List.set_cons_zero, List.set_cons_succ, i64_w, i32_w]
    rfl
  refine pure_ (i := 5) (N := some 9) (v := ?_) (a' := ?_) #[true, true, false, true, true, true, false, false, false] rfl rfl (by kernel_rfl) (fun _ _ _ h => h) (Or.inl ⟨by rfl, ?_⟩) ?_ ?_
  rotate_left
  · intro w'
    go_simp
    with_reducible rfl
  rotate_left
  · simp only [Act.put, List.setIfInBounds_toArray, List.set_cons_zero, List.set_cons_succ, i64_w, i32_w]
    rfl
  refine one_ (i := 2) (N := some 6) #[true, true, true, true, true, true, false, false, false] rfl rfl (by kernel_rfl) (by decide) (fun K hK => ?_)
  refine goes_ Tryz.func75 (by kernel_rfl) rfl #[.agg (hashCells x.s).toArray] (by rfl) rfl rfl (by simp only [List.map_toArray, List.map_cons, List.map_nil]; rfl) ?_
  with_reducible refine (bytesOf_calls x.s H1.out W2).mono ?_
  rintro e w3 ⟨v3, rfl, hr3, hb3⟩
  refine ⟨_, rfl, ?_⟩
  have HA3 := Aside0.mk (App.of_R (Below.refl _ _) hr3 hb3)
  clear hr3 hb3
  refine hK.out _ _ ⟨pw_cell_below HA3.out.bel c32, range_below hra HA3.out.bel⟩ (fun hHeld => ?_)
  clear hK K
  refine norm_ (a' := ?_) ?_ ?_
  rotate_left
  · show Act.put _ (some 6) _ = _
    simp only [Act.put, List.setIfInBounds_toArray, List.set_cons_zero, List.set_cons_succ, i64_w, i32_w]
    rfl
  refine one_ (i := 6) (N := some 10) #[true, true, true, true, true, true, true, false, false] rfl rfl (by kernel_rfl) (by decide) (fun K hK => ?_)
  refine goes_ Tryz.func36 (by kernel_rfl) rfl #[.int .u64 (IntKind.u64.wrap x.g)] (by rfl) rfl rfl (by simp only [List.map_toArray, List.map_cons, List.map_nil]; rfl) ?_
  with_reducible refine (refVarW_calls x.g w3 h0 (by omega)).mono ?_
  rintro e w4 ⟨v4, rfl, hr4, hb4⟩
  refine ⟨_, rfl, ?_⟩
  obtain ⟨A4, c4, rfl, hl4, hc4⟩ := Kd.R_reads hr4
  have HA4 := Aside0.mk (HA3.out.below hb4)
  have HC4 := Aside0.mk hc4
  clear hr4 hb4 hl4 hc4
  refine hK.out _ _ ⟨pw_cell_below HA4.out.bel c32, range_below hra HA4.out.bel⟩ (fun hHeld => ?_)
  clear hK K
  refine norm_ (a' := ?_) ?_ ?_
  rotate_left
  · show Act.put _ (some 10) _ = _
    simp only [Act.put, List.setIfInBounds_toArray, List.set_cons_zero, List.set_cons_succ, i64_w, i32_w]
    rfl
  refine one_ (i := 7) (N := some 11) #[true, true, true, true, true, true, true, true, false] rfl rfl (by kernel_rfl) (by decide) (fun K hK => ?_)
  refine app_rows_step (by rfl) (.tmp 6) (.tmp 10) (by rfl) v3 x.s (varP x.g) A4 (varP x.g).length c4 rfl rfl HA4.out HC4.out (by have := HLN.out; omega) ?_
  intro v5 w5 ha5 hk5
  rw [← HY1.out] at ha5
  have HA5 := Aside0.mk ha5
  clear ha5 hk5
  refine hK.out _ _ ⟨pw_cell_below HA5.out.bel c32, range_below hra HA5.out.bel⟩ (fun hHeld => ?_)
  clear hK K
  refine norm_ (a' := ?_) ?_ ?_
  rotate_left
  · show Act.put _ (some 11) _ = _
    simp only [Act.put, List.setIfInBounds_toArray, List.set_cons_zero, List.set_cons_succ, i64_w, i32_w]
    rfl
  refine pure_ (i := 8) (N := some 3) (v := ?_) (a' := ?_) #[true, true, true, true, true, true, true, true, true] rfl rfl (by kernel_rfl) (fun _ _ _ h => h) (Or.inl ⟨by rfl, ?_⟩) ?_ ?_
  rotate_left
  · intro w'
    go_simp
    with_reducible rfl
  rotate_left
  · simp only [Act.put, List.setIfInBounds_toArray, List.set_cons_zero, List.set_cons_succ, i64_w, i32_w]
    rfl
  refine done_ (by kernel_rfl) ?_
  have hx5 := (HA5.out.bel.block _ (blk_lt HX0.out)).trans HX0.out
  have HR5 := Aside0.mk (HRB.out _ hx5)
  clear c32 hra hx5
  go_wp2_with (first | (refine wpList_load_mid rfl 61 (.tmp 13) rfl w.heap.size 33 rfl (hashCells x.r) _ HR5.out Tryz.underlying61 rfl (by rw [HL2.out]; kernel_rfl) ?_) | (go_at_call 75; refine (bytesOf_calls x.r H2.out w5).mono ?_; rintro e w6 ⟨v6, rfl, hr6, hb6⟩; obtain ⟨A6, c6, rfl, hl6, hc6⟩ := Kd.R_reads hr6; have HA6 := Aside0.mk (HA5.out.below hb6); have hc6' := hc6; rw [H2.out] at hc6'; have HC6 := Aside0.mk hc6; clear hr6 hb6 hl6 hc6 hc6') | ((with_reducible refine gate_builtin (b := .append) (xs := #[.tmp 12, .tmp 15]) rfl ?_); at_builtin; refine app_rows rfl (.tmp 12) (.tmp 15) rfl v5 y1 x.r A6 x.r.length c6 rfl rfl HA6.out HC6.out (by rw [H2.out]; omega) ?_; intro v7 w7 ha7 hk7; have HA7 := Aside0.mk ha7; clear ha7 hk7))
  go_ret
  refine ⟨_, rfl, ?_⟩
  have := HA7.out.res HB0.out
  rwa [HT.out] at this
end Go.Proofs.YtjmhiklmlgbifaaGreatDoor.PMan
end
section
namespace Go.Proofs.YtjmhiklmlgbifaaGreatDoor.PMan
open Go.RowKit Go.Proofs.YtjmhiklmlgbifaaGreatDoorW.PrintWords Go.Proofs.YtjmhiklmlgbifaaGreatDoorW.PrintLast Go.Proofs.YtjmhiklmlgbifaaGreatDoorW.PrintMore
set_option linter.unusedVariables false
set_option linter.unusedSimpArgs false
set_option maxHeartbeats 3200000 in
set_option maxRecDepth 100000 in
theorem refPutRows_calls (A : Option Addr) (c : Nat) (rows : List (List S68)) (w : World) (hr : Kd.C (Kd.slice 68 k68) w A rows.length rows) (hv : ∀ r ∈ rows, ∀ v ∈ r, ValOk v) (hl : (rowsP rows).length < 1000000000) :
    Calls Tryz.prog 40 #[.slice A rows.length c] w fun e w' => ∃ q_ : Value, e = .returned q_ ∧ Kd.R (Kd.int .u8) 5 w' w.heap.size (fun _ => True) q_ (rowsP rows) ∧ Below w.heap.size w w' := by
  have HR := Aside0.mk hr
  have HV := Aside0.mk hv
  have hb : rows.length ≤ 9223372036854775807 := hr.2.1
  clear hr hv
  obtain ⟨T, hT⟩ : ∃ T, T = rowsP rows := ⟨_, rfl⟩
  rw [← hT] at hl ⊢
  have HT := Aside0.mk hT
  clear hT
  have hu : IntKind.u64.wrap (rows.length : Int) = (rows.length : Int) := u64_small _ (by omega) (by omega)
  go_enter Tryz.func40, Tryz.ntmps40
  go_wp2_with fail
  refine (refVar_calls rows.length w (by omega) (by omega)).mono ?_
  rintro e w1 ⟨v1, rfl, hr1, hb1⟩
  have HA1 := Aside0.mk (App.of_R (Below.refl _ _) hr1 hb1)
  clear hr1 hb1
  go_wp2_with fail
  go_loopw [3, 4] (fun v3 v4 w' => ∃ (i : Nat) (y : List Int), i ≤ rows.length ∧ v4 = .int .i64 i ∧ Aside0 (App w w' v3 y) ∧ Aside0 (y ++ rowsF (rows.drop i) = T)) (fun _ i => fun _ => rows.length - (intOf i).toNat)
  case atStart => exact ⟨0, _, Nat.zero_le _, rfl, HA1, ⟨by rw [HT.out, List.drop_zero, rowsP]⟩⟩
  case round =>
    obtain ⟨i, y, hi, rfl, HY, HE⟩ := hrel
    by_cases hlt : i < rows.length
    · obtain ⟨ad, A0, c0, e1, x0, hc0, hC⟩ := at_L6 HR.out (i : Int) (by omega) (by omega)
      cases e1
      have hmem : ∀ v ∈ rd_L6 rows (i : Int), ValOk v := HV.out _ (getD_mem rows i [] hlt)
      have he := HE.out
      rw [drop_cons rows i [] hlt, rowsF] at he
      have he2 : y ++ (rowF ((rd_L6 rows (i : Int)).drop 0) ++ rowsF (rows.drop (i + 1))) = T := he
      generalize rd_L6 rows (i : Int) = r at *
      rw [show ((i : Int)).toNat = i from by omega] at x0
      have X0 := Aside0.mk x0
      have HC0 := Aside0.mk hC
      have HE2 := Aside0.mk he2
      have HM := Aside0.mk hmem
      have hrb : r.length ≤ 9223372036854775807 := hC.2.1
      clear hC he he2 HE hmem x0
      go_wp2_with fail
      go_loopw [3, 5] (fun v3 v5 w' => ∃ (k : Nat) (z : List Int), k ≤ r.length ∧ v5 = .int .i64 k ∧ Aside0 (App w w' v3 z) ∧ Aside0 (z ++ (rowF (r.drop k) ++ rowsF (rows.drop (i + 1))) = T)) (fun _ i => fun _ => r.length - (intOf i).toNat)
      case atStart => exact ⟨0, y, Nat.zero_le _, rfl, HY, HE2⟩
      case round =>
        obtain ⟨k, z, hk, rfl, HZ, HF⟩ := hrel
        have x0 := pw_cell_below HZ.out.bel X0.out
        by_cases hkt : k < r.length
        · obtain ⟨bd, e2, y0, y1, y2⟩ := at_T68 (Kd.C_below HC0.out HZ.out.bel) (k : Int) (by omega) (by omega)
          cases e2
          have hok : ValOk (rd_T68 r (k : Int)) := HM.out _ (getD_mem r k z68 hkt)
          have he := HF.out
          rw [drop_cons r k z68 hkt, rowF] at he
          have he2 : z ++ (valP (rd_T68 r (k : Int)) ++ rowF (r.drop (k + 1)) ++ rowsF (rows.drop (i + 1))) = T := he
          generalize rd_T68 r (k : Int) = v at *
          rw [show ((k : Int)).toNat = k from by omega] at y0 y1 y2
          obtain ⟨z1, hz1⟩ : ∃ z1, z1 = z ++ valP v := ⟨_, rfl⟩
          have hE : z1 ++ (rowF (r.drop (k + 1)) ++ rowsF (rows.drop (i + 1))) = T := by rw [← he2, hz1]; simp only [List.append_assoc]
          have hz1l : z1.length < 1000000000 := by have := congrArg List.length hE; rw [List.length_append] at this; omega
          have hzl : z.length + (valP v).length < 1000000000 := by have := congrArg List.length hz1; rw [List.length_append] at this; omega
          have HE3 := Aside0.mk hE
          have HQ1 := Aside0.mk hz1
          have HOK := Aside0.mk hok
          clear he he2 hok HF hE hz1
          go_wp2_with (first | (go_at_call 74; (with_reducible refine (refPut_calls v wr HOK.out).mono ?_); rintro e w8 ⟨v8, rfl, hr8, hb8⟩; obtain ⟨A8, c8, rfl, hl8, hc8⟩ := Kd.R_reads hr8; have HA8 := Aside0.mk (HZ.out.below hb8); have HC8 := Aside0.mk hc8; clear hr8 hb8 hl8 hc8 ) | ((with_reducible refine gate_builtin (b := .append) (xs := #[.tmp 25, .tmp 33]) rfl ?_); at_builtin; refine app_rows rfl (.tmp 25) (.tmp 33) rfl _ z (valP v) A8 (valP v).length c8 rfl rfl HA8.out HC8.out (by omega) ?_; intro v9 w9 ha9 hk9; rw [← HQ1.out] at ha9; have HA9 := Aside0.mk ha9; clear ha9 hk9 ))
          go_roundw
          case rel => exact ⟨k + 1, z1, by omega, by go_num, HA9, HE3⟩
          case measure => simp [intOf]; omega
        · obtain rfl : k = r.length := by omega
          have he := HF.out
          rw [List.drop_eq_nil_of_le (Nat.le_refl _)] at he
          have HE3 := Aside0.mk (show z ++ rowsF (rows.drop (i + 1)) = T from he)
          clear he HF
          go_wp2
          go_roundw
          case rel => exact ⟨i + 1, z, by omega, by go_num, HZ, HE3⟩
          case measure => simp [intOf]; omega
    · obtain rfl : i = rows.length := by omega
      have he := HE.out
      rw [List.drop_eq_nil_of_le (Nat.le_refl _), rowsF, List.append_nil] at he
      subst he
      go_wp2
      go_ret
      exact ⟨_, rfl, HY.out.res (Below.refl _ _)⟩
theorem range_part {w : World} {b o : Nat} {pre cs post : List Value} (h : w.rangeAt b o (pre ++ (cs ++ post))) (n : Nat) (hn : n = o + pre.length) : w.rangeAt b n cs := by
  intro j v hj
  subst hn
  have hl := (List.getElem?_eq_some_iff.1 hj).1
  have := h (pre.length + j) v (by rw [List.getElem?_append_right (by omega), Nat.add_sub_cancel_left, List.getElem?_append_left hl, hj])
  rwa [← Nat.add_assoc] at this
theorem z_all (z : S70) : ((zCells z).toArray).all (·.oneCell') = true := by
  simp [zCells, Value.oneCell']
set_option maxHeartbeats 3200000 in
set_option maxRecDepth 100000 in
theorem refPutHeader_calls (x : Hd) (A : Option Addr) (c0 : Nat) (w : World) (hok : HdOk x) (hc : x.cols.length ≤ c0) (hr : kCH.C w A x.cols.length x.cols) (hl : (headP x).length < 1000000000) :
    Calls Tryz.prog 38 #[.agg (hdCells x A c0).toArray] w fun e w' => ∃ q_ : Value, e = .returned q_ ∧ Kd.R (Kd.int .u8) 5 w' w.heap.size (fun _ => True) q_ (headP x) ∧ Below w.heap.size w w' := by
  have hd := hok.d
  have i0 : (hdCells x A c0).toArray[0]? = some (.int .i64 x.rows) := rfl
  have i1 : (hdCells x A c0).toArray[1]? = some (.int .i64 x.live) := rfl
  have i34 : (hdCells x A c0).toArray[34]? = some (.slice A x.cols.length c0) := by
    rw [List.getElem?_toArray]
    unfold hdCells hashCells
    rw [List.getElem?_cons_succ, List.getElem?_cons_succ, List.getElem?_append_right (by rw [List.length_map]; omega), List.length_map, hd]
    rfl
  have hrg : ∀ W : World, W.heap[w.heap.size]? = some (.cells (hdCells x A c0).toArray 64 (0, 0)) → W.rangeAt w.heap.size 2 (hashCells x.dead) := fun W h => range_of (pre := [.int .i64 x.rows, .int .i64 x.live]) (cs := hashCells x.dead) (post := [.slice A x.cols.length c0]) h 2 rfl
  generalize (hdCells x A c0).toArray = cc at *
  have HRG := Aside0.mk hrg
  have HR := Aside0.mk hr
  have HOK := Aside0.mk hok
  have HI34 := Aside0.mk i34
  have HI1 := Aside0.mk i1
  have HD := Aside0.mk hd
  have hb : x.cols.length ≤ 9223372036854775807 := hr.2.1
  clear hr hok i34 hd hrg
  obtain ⟨T, hT⟩ : ∃ T, T = headP x := ⟨_, rfl⟩
  rw [← hT] at hl ⊢
  obtain ⟨y4, hy4⟩ : ∃ y, y = varP x.rows ++ varP x.live := ⟨_, rfl⟩
  obtain ⟨y5, hy5⟩ : ∃ y, y = y4 ++ x.dead := ⟨_, rfl⟩
  have HE5 := Aside0.mk (show y5 ++ colsF (x.cols.drop 0) = T by rw [hT, hy5, hy4, headP, List.drop_zero]; simp only [List.append_assoc])
  have HQ4 := Aside0.mk hy4
  have HQ5 := Aside0.mk hy5
  have hvr := varP_len x.rows
  have hvl := varP_len x.live
  have hy4l : y4.length ≤ 20 := by rw [hy4, List.length_append]; omega
  clear hT hy4 hy5
  go_enter Tryz.func38, Tryz.ntmps38
  go_wp2_with fail
  have hbw : Below w.heap.size w (w.alloc (.cells cc 64)).drew := below_drew (below_alloc (Below.refl _ _) _)
  have hx : (w.alloc (.cells cc 64)).drew.heap[w.heap.size]? = some (.cells cc 64 (0, 0)) := heap_alloc_new w _
  have q0 := (blk_cell hx 0).trans i0
  have q1 := (blk_cell hx 1).trans HI1.out
  have HX := Aside0.mk hx
  have HBW := Aside0.mk hbw
  clear hx hbw i0 i1
  refine start_ (n := 10) (S := fun w' => w'.cell? ⟨w.heap.size, 0, none⟩ = some (.int .i64 x.rows) ∧ w'.cell? ⟨w.heap.size, 1, none⟩ = some (.int .i64 x.live)) (ds := []) #[false, false, false, false, false, false, false, false, false, false] (by kernel_rfl) rfl rfl ⟨q0, q1⟩ (fun hHeld => ?_)
  generalize (w.alloc (.cells cc 64)).drew = W2 at *
  refine pure_ (i := 0) (N := some 6) (v := ?_) (a' := ?_) #[true, false, false, false, false, false, false, false, false, false] rfl rfl (by kernel_rfl) (fun _ _ _ h => h) (Or.inl ⟨by rfl, ?_⟩) ?_ ?_
  rotate_left
  · intro w'
    go_simp
    with_reducible rfl
  rotate_left
  · simp only [Act.put, List.setIfInBounds_toArray, List.set_cons_zero, List.set_cons_succ, i64_w, i32_w]
    rfl
  refine pure_ (i := 4) (N := some 10) (v := ?_) (a' := ?_) #[true, false, false, false, true, false, false, false, false, false] rfl rfl (by kernel_rfl) (fun _ _ _ h => h) (Or.inl ⟨by rfl, ?_⟩) ?_ ?_
  rotate_left
  · intro w'
    go_simp
    with_reducible rfl
  rotate_left
  · simp only [Act.put, List.setIfInBounds_toArray, List.set_cons_zero, List.set_cons_succ, i64_w, i32_w]
    rfl
  refine take_ (i := 1) (N := some 7) (v := ?_) (a' := ?_) #[true, true, false, false, true, false, false, false, false, false] rfl rfl (by kernel_rfl) (fun _ _ _ h => h) (Or.inl ⟨by rfl, ?_⟩) hHeld ?_ ?_
  rotate_left
  · rintro w' ⟨s0, s1⟩
    go_simp
    with_reducible rfl
  rotate_left
  · simp only [Act.put, List.setIfInBounds_toArray, List.set_cons_zero, List.set_cons_succ, i64_w, i32_w]
    rfl
  refine pure_ (i := 2) (N := some 8) (v := ?_) (a' := ?_) #[true, true, true, false, true, false, false, false, false, false] rfl rfl (by kernel_rfl) (fun _ _ _ h => h) (Or.inl ⟨by rfl, ?_⟩) ?_ ?_
  rotate_left
  · intro w'
    go_simp
    with_reducible rfl
  rotate_left
  · simp only [Act.put, List.setIfInBounds_toArray, List.set_cons_zero, List.set_cons_succ, i64_w, i32_w]
    rfl
  refine take_ (i := 5) (N := some 11) (v := ?_) (a' := ?_) #[true, true, true, false, true, true, false, false, false, false] rfl rfl (by kernel_rfl) (fun _ _ _ h => h) (Or.inl ⟨by rfl, ?_⟩) hHeld ?_ ?_
  rotate_left
  · rintro w' ⟨s0, s1⟩
    go_simp
    with_reducible rfl
  rotate_left
  · simp only [Act.put, List.setIfInBounds_toArray, List.set_cons_zero, List.set_cons_succ, i64_w, i32_w]
    rfl
  refine pure_ (i := 6) (N := some 12) (v := ?_) (a' := ?_) #[true, true, true, false, true, true, true, false, false, false] rfl rfl (by kernel_rfl) (fun _ _ _ h => h) (Or.inl ⟨by rfl, ?_⟩) ?_ ?_
  rotate_left
  · intro w'
    go_simp
    with_reducible rfl
  rotate_left
  · simp only [Act.put, List.setIfInBounds_toArray, List.set_cons_zero, List.set_cons_succ, i64_w, i32_w]
    rfl
  refine one_ (i := 3) (N := some 9) #[true, true, true, true, true, true, true, false, false, false] rfl rfl (by kernel_rfl) (by decide) (fun K hK => ?_)
  refine goes_ Tryz.func36 (by kernel_rfl) rfl #[.int .u64 (IntKind.u64.wrap x.rows)] (by rfl) rfl rfl (by simp only [List.map_toArray, List.map_cons, List.map_nil]; rfl) ?_
  with_reducible refine (refVarW_calls x.rows W2 HOK.out.r0 HOK.out.r1).mono ?_
  rintro e w3 ⟨v3, rfl, hr3, hb3⟩
  refine ⟨_, rfl, ?_⟩
  have HA3 := Aside0.mk (App.of_R (Below.refl _ _) hr3 hb3)
  clear hr3 hb3
  refine hK.out _ _ ⟨pw_cell_below HA3.out.bel q0, pw_cell_below HA3.out.bel q1⟩ (fun hHeld => ?_)
  clear hK K
  refine norm_ (a' := ?_) ?_ ?_
  rotate_left
  · show Act.put _ (some 9) _ = _
    simp only [Act.put, List.setIfInBounds_toArray, List.set_cons_zero, List.set_cons_succ, i64_w, i32_w]
    rfl
  refine one_ (i := 7) (N := some 13) #[true, true, true, true, true, true, true, true, false, false] rfl rfl (by kernel_rfl) (by decide) (fun K hK => ?_)
  refine goes_ Tryz.func36 (by kernel_rfl) rfl #[.int .u64 (IntKind.u64.wrap x.live)] (by rfl) rfl rfl (by simp only [List.map_toArray, List.map_cons, List.map_nil]; rfl) ?_
  with_reducible refine (refVarW_calls x.live w3 HOK.out.l0 HOK.out.l1).mono ?_
  rintro e w4 ⟨v4, rfl, hr4, hb4⟩
  refine ⟨_, rfl, ?_⟩
  obtain ⟨A4, c4, rfl, hl4, hc4⟩ := Kd.R_reads hr4
  have HA4 := Aside0.mk (HA3.out.below hb4)
  have HC4 := Aside0.mk hc4
  clear hr4 hb4 hl4 hc4
  refine hK.out _ _ ⟨pw_cell_below HA4.out.bel q0, pw_cell_below HA4.out.bel q1⟩ (fun hHeld => ?_)
  clear hK K
  refine norm_ (a' := ?_) ?_ ?_
  rotate_left
  · show Act.put _ (some 13) _ = _
    simp only [Act.put, List.setIfInBounds_toArray, List.set_cons_zero, List.set_cons_succ, i64_w, i32_w]
    rfl
  refine one_ (i := 8) (N := some 14) #[true, true, true, true, true, true, true, true, true, false] rfl rfl (by kernel_rfl) (by decide) (fun K hK => ?_)
  refine app_rows_step (by rfl) (.tmp 9) (.tmp 13) (by rfl) v3 (varP x.rows) (varP x.live) A4 (varP x.live).length c4 rfl rfl HA4.out HC4.out (by omega) ?_
  intro v5 w5 ha5 hk5
  rw [← HQ4.out] at ha5
  have HA5 := Aside0.mk ha5
  clear ha5 hk5
  refine hK.out _ _ ⟨pw_cell_below HA5.out.bel q0, pw_cell_below HA5.out.bel q1⟩ (fun hHeld => ?_)
  clear hK K
  refine norm_ (a' := ?_) ?_ ?_
  rotate_left
  · show Act.put _ (some 14) _ = _
    simp only [Act.put, List.setIfInBounds_toArray, List.set_cons_zero, List.set_cons_succ, i64_w, i32_w]
    rfl
  refine pure_ (i := 9) (N := some 3) (v := ?_) (a' := ?_) #[true, true, true, true, true, true, true, true, true, true] rfl rfl (by kernel_rfl) (fun _ _ _ h => h) (Or.inl ⟨by rfl, ?_⟩) ?_ ?_
  rotate_left
  · intro w'
    go_simp
    with_reducible rfl
  rotate_left
  · simp only [Act.put, List.setIfInBounds_toArray, List.set_cons_zero, List.set_cons_succ, i64_w, i32_w]
    rfl
  refine done_ (by kernel_rfl) ?_
  have HXe := Aside0.mk ((HA5.out.bel.block _ (blk_lt HX.out)).trans HX.out)
  have hce := hash_C (HRG.out w5 HXe.out) (by rw [HD.out]; omega)
  rw [HD.out] at hce
  have HCe := Aside0.mk hce
  clear hce q0 q1
  go_wp2_with (((with_reducible refine gate_builtin (b := .append) (xs := #[.tmp 15, .tmp 17]) rfl ?_); at_builtin; refine app_rows rfl (.tmp 15) (.tmp 17) rfl v5 y4 x.dead (some ⟨w.heap.size, 2, none⟩) 32 32 rfl rfl HA5.out HCe.out (by omega) ?_; intro vf wf haf hkf; rw [← HQ5.out] at haf; have HAf := Aside0.mk haf; clear haf hkf ; have q34 : wf.cell? ⟨w.heap.size, 34, none⟩ = some (.slice A x.cols.length c0) := (blk_cell ((HAf.out.bel.block _ (blk_lt HX.out)).trans HX.out) 34).trans HI34.out))
  go_loopw [3, 4] (fun v3 v4 w' => ∃ (i : Nat) (y : List Int), i ≤ x.cols.length ∧ v4 = .int .i64 i ∧ Aside0 (App W2 w' v3 y) ∧ Aside0 (y ++ colsF (x.cols.drop i) = T)) (fun _ i => fun _ => x.cols.length - (intOf i).toNat)
  case atStart => exact ⟨0, _, Nat.zero_le _, rfl, HAf, HE5⟩
  case round =>
    obtain ⟨i, y, hi, rfl, HY, HE⟩ := hrel
    have q34 : wr.cell? ⟨w.heap.size, 34, none⟩ = some (.slice A x.cols.length c0) := (blk_cell ((HY.out.bel.block _ (blk_lt HX.out)).trans HX.out) 34).trans HI34.out
    by_cases hlt : i < x.cols.length
    · obtain ⟨b, o, cs, e1, hK, hcl, hm⟩ := C_mid HR.out zCH i hlt (by decide)
      have hco : ColOk (x.cols.getD i zCH) := HOK.out.c _ (getD_mem x.cols i zCH hlt)
      have he := HE.out
      rw [drop_cons x.cols i zCH hlt, colsF] at he
      generalize x.cols.getD i zCH = c at *
      obtain ⟨rfl, hh⟩ := kCH_open hK
      rw [kCH_sz] at hm hcl
      have hmz := range_part (pre := []) (cs := zCells c.z) (post := hashCells c.h) hm (o + i * 40) rfl
      have hmh := range_part (pre := zCells c.z) (cs := hashCells c.h) (post := []) (by rw [List.append_nil]; exact hm) (o + i * 40 + 8) rfl
      have HMZ := Aside0.mk (range_below (range_below hmz HBW.out) HY.out.bel)
      have HMH := Aside0.mk (range_below hmh HBW.out)
      have HH := Aside0.mk hh
      have HCO := Aside0.mk hco
      obtain ⟨ya, hya⟩ : ∃ ya, ya = y ++ varP c.z.f0 := ⟨_, rfl⟩
      have HQa := Aside0.mk hya
      have hQ34 : W2.cell? ⟨w.heap.size, 34, none⟩ = some (.slice A x.cols.length c0) := (blk_cell HX.out 34).trans HI34.out
      have Q34 := Aside0.mk hQ34
      cases e1
      cases hsm : c.z.f1 with
      | false =>
        have HSM := Aside0.mk hsm
        obtain ⟨yb, hyb⟩ : ∃ yb, yb = ya ++ [(0 : Int)] := ⟨_, rfl⟩
        obtain ⟨ye, hye⟩ : ∃ ye, ye = yb ++ c.h := ⟨_, rfl⟩
        have hE : ye ++ colsF (x.cols.drop (i + 1)) = T := by rw [← he, hye, hyb, hya, colF, zoneF, hsm, if_neg (by decide)]; simp only [List.append_assoc]
        have hyel : ye.length < 1000000000 := by have := congrArg List.length hE; rw [List.length_append] at this; omega
        have hybl : yb.length < 1000000000 := by have := congrArg List.length hye; rw [List.length_append] at this; omega
        have hyal : ya.length < 1000000000 := by have := congrArg List.length hyb; rw [List.length_append] at this; omega
        have hyl : y.length + (varP c.z.f0).length < 1000000000 := by have := congrArg List.length hya; rw [List.length_append] at this; omega
        have HEe := Aside0.mk hE
        have HQb := Aside0.mk hyb
        have HQe := Aside0.mk hye
        clear hK hcl hm hco he HE hmz hmh hya hyb hye hE hsm hh hQ34
        go_wp2_with (first | (refine wpList_load_mid rfl 70 (.tmp 30) rfl b (o + i * 40) rfl (zCells c.z) _ HMZ.out Tryz.underlying70 rfl (by kernel_rfl) ?_) | (refine wpList_store_row rfl 70 (.tmp 5) (.tmp 31) rfl wr.heap.size ((zCells c.z).toArray) rfl rfl 70 _ (heap_alloc_new wr _) (by kernel_rfl) (by rfl) (z_all _) ?_; rw [World.setRow_alloc_new]; have hx := heap_alloc_new wr (.cells (zCells c.z).toArray 70); have hbr : Below wr.heap.size wr (wr.alloc (.cells (zCells c.z).toArray 70)) := below_alloc (Below.refl _ _) _; have HA6 := Aside0.mk (HY.out.below hbr); have HX6 := Aside0.mk hx; clear hx hbr q34; generalize (wr.alloc (.cells (zCells c.z).toArray 70)) = W6 at *; have p0 : W6.cell? ⟨wr.heap.size, 0, none⟩ = some (.int .i64 c.z.f0) := (blk_cell HX6.out 0).trans rfl) | (go_at_call 36; (with_reducible refine (refVarW_calls c.z.f0 W6 HCO.out.n0 HCO.out.n1).mono ?_); rintro e wa ⟨va, rfl, hra, hba⟩; obtain ⟨Aa, ca, rfl, hla, hca⟩ := Kd.R_reads hra; have HAa := Aside0.mk (HA6.out.below hba); have HCa := Aside0.mk hca; have HXa := Aside0.mk ((hba.block _ (blk_lt HX6.out)).trans HX6.out); clear hra hba hla hca p0) | ((with_reducible refine gate_builtin (b := .append) (xs := #[.tmp 32, .tmp 36]) rfl ?_); at_builtin; refine app_rows rfl (.tmp 32) (.tmp 36) rfl u3 y (varP c.z.f0) Aa (varP c.z.f0).length ca rfl rfl HAa.out HCa.out (by omega) ?_; intro vb wb hab hkb; rw [← HQa.out] at hab; have HAb := Aside0.mk hab; have HXb := Aside0.mk (Stay.block HAa.out hkb.kept HXa.out (by decide)); clear hab hkb ; have p1 : wb.cell? ⟨wr.heap.size, 1, none⟩ = some (.bool false) := (blk_cell HXb.out 1).trans (by show some (Value.bool c.z.f1) = _; rw [HSM.out])) | ((with_reducible refine gate_builtin (b := .append) (xs := #[.tmp 53, .tmp 54]) rfl ?_); at_builtin; have HAg := Aside0.mk (HAb.out.below (below_alloc (Below.refl _ _) (.cells #[.int .u8 0] 5))); have HOg := Aside0.mk (one_C (heap_alloc_new wb (.cells #[.int .u8 0] 5))); have HXg := Aside0.mk (((below_alloc (Below.refl wb.heap.size wb) (.cells #[.int .u8 0] 5)).block _ (blk_lt HXb.out)).trans HXb.out); generalize wb.alloc (.cells #[.int .u8 0] 5) = Wg at *; refine app_rows rfl (.tmp 53) (.tmp 54) rfl vb ya [0] (some ⟨wb.heap.size, 0, none⟩) 1 1 rfl rfl HAg.out HOg.out (by omega) ?_; intro vc wc hac hkc; rw [← HQb.out] at hac; have HAc := Aside0.mk hac; have HXc := Aside0.mk (Stay.block HAg.out hkc.kept HXg.out (by decide)); clear hac hkc p1; have q34 : wc.cell? ⟨w.heap.size, 34, none⟩ = some (.slice (some ⟨b, o, none⟩) x.cols.length c0) := pw_cell_below HAc.out.bel Q34.out; have hce := hash_C (range_below HMH.out HAc.out.bel) (by rw [HH.out]; omega); rw [HH.out] at hce; have HCe2 := Aside0.mk hce; clear hce) | ((with_reducible refine gate_builtin (b := .append) (xs := #[.tmp 56, .tmp 62]) rfl ?_); at_builtin; refine app_rows rfl (.tmp 56) (.tmp 62) rfl vc yb c.h (some ⟨b, o + i * 40 + 8, none⟩) 32 32 rfl rfl HAc.out HCe2.out (by omega) ?_; intro vz wz haz hkz; rw [← HQe.out] at haz; have HAz := Aside0.mk haz; clear haz hkz ))
        go_roundw
        case rel => exact ⟨i + 1, ye, by omega, by go_num, HAz, HEe⟩
        case measure => simp [intOf]; omega
      | true =>
        have HSM := Aside0.mk hsm
        obtain ⟨yb, hyb⟩ : ∃ yb, yb = ya ++ [(1 : Int)] := ⟨_, rfl⟩
        obtain ⟨yc, hyc⟩ : ∃ yc, yc = yb ++ valP c.z.f2 := ⟨_, rfl⟩
        obtain ⟨yd, hyd⟩ : ∃ yd, yd = yc ++ valP c.z.f3 := ⟨_, rfl⟩
        obtain ⟨ye, hye⟩ : ∃ ye, ye = yd ++ c.h := ⟨_, rfl⟩
        have hE : ye ++ colsF (x.cols.drop (i + 1)) = T := by rw [← he, hye, hyd, hyc, hyb, hya, colF, zoneF, hsm, if_pos rfl]; simp only [List.append_assoc, List.cons_append, List.nil_append]
        have hyel : ye.length < 1000000000 := by have := congrArg List.length hE; rw [List.length_append] at this; omega
        have hydl : yd.length < 1000000000 := by have := congrArg List.length hye; rw [List.length_append] at this; omega
        have hycl : yc.length + (valP c.z.f3).length < 1000000000 := by have := congrArg List.length hyd; rw [List.length_append] at this; omega
        have hybl : yb.length + (valP c.z.f2).length < 1000000000 := by have := congrArg List.length hyc; rw [List.length_append] at this; omega
        have hyal : ya.length < 1000000000 := by have := congrArg List.length hyb; rw [List.length_append] at this; omega
        have hyl : y.length + (varP c.z.f0).length < 1000000000 := by have := congrArg List.length hya; rw [List.length_append] at this; omega
        have HEe := Aside0.mk hE
        have HQb := Aside0.mk hyb
        have HQc := Aside0.mk hyc
        have HQd := Aside0.mk hyd
        have HQe := Aside0.mk hye
        clear hK hcl hm hco he HE hmz hmh hya hyb hyc hyd hye hE hsm hh hQ34
        go_wp2_with (first | (refine wpList_load_mid rfl 70 (.tmp 30) rfl b (o + i * 40) rfl (zCells c.z) _ HMZ.out Tryz.underlying70 rfl (by kernel_rfl) ?_) | (refine wpList_store_row rfl 70 (.tmp 5) (.tmp 31) rfl wr.heap.size ((zCells c.z).toArray) rfl rfl 70 _ (heap_alloc_new wr _) (by kernel_rfl) (by rfl) (z_all _) ?_; rw [World.setRow_alloc_new]; have hx := heap_alloc_new wr (.cells (zCells c.z).toArray 70); have hbr : Below wr.heap.size wr (wr.alloc (.cells (zCells c.z).toArray 70)) := below_alloc (Below.refl _ _) _; have HA6 := Aside0.mk (HY.out.below hbr); have HX6 := Aside0.mk hx; clear hx hbr q34; generalize (wr.alloc (.cells (zCells c.z).toArray 70)) = W6 at *; have p0 : W6.cell? ⟨wr.heap.size, 0, none⟩ = some (.int .i64 c.z.f0) := (blk_cell HX6.out 0).trans rfl) | (go_at_call 36; (with_reducible refine (refVarW_calls c.z.f0 W6 HCO.out.n0 HCO.out.n1).mono ?_); rintro e wa ⟨va, rfl, hra, hba⟩; obtain ⟨Aa, ca, rfl, hla, hca⟩ := Kd.R_reads hra; have HAa := Aside0.mk (HA6.out.below hba); have HCa := Aside0.mk hca; have HXa := Aside0.mk ((hba.block _ (blk_lt HX6.out)).trans HX6.out); clear hra hba hla hca p0) | ((with_reducible refine gate_builtin (b := .append) (xs := #[.tmp 32, .tmp 36]) rfl ?_); at_builtin; refine app_rows rfl (.tmp 32) (.tmp 36) rfl u3 y (varP c.z.f0) Aa (varP c.z.f0).length ca rfl rfl HAa.out HCa.out (by omega) ?_; intro vb wb hab hkb; rw [← HQa.out] at hab; have HAb := Aside0.mk hab; have HXb := Aside0.mk (Stay.block HAa.out hkb.kept HXa.out (by decide)); clear hab hkb ; have p1 : wb.cell? ⟨wr.heap.size, 1, none⟩ = some (.bool true) := (blk_cell HXb.out 1).trans (by show some (Value.bool c.z.f1) = _; rw [HSM.out])) | ((with_reducible refine gate_builtin (b := .append) (xs := #[.tmp 40, .tmp 41]) rfl ?_); at_builtin; have HAg := Aside0.mk (HAb.out.below (below_alloc (Below.refl _ _) (.cells #[.int .u8 1] 5))); have HOg := Aside0.mk (one_C (heap_alloc_new wb (.cells #[.int .u8 1] 5))); have HXg := Aside0.mk (((below_alloc (Below.refl wb.heap.size wb) (.cells #[.int .u8 1] 5)).block _ (blk_lt HXb.out)).trans HXb.out); generalize wb.alloc (.cells #[.int .u8 1] 5) = Wg at *; refine app_rows rfl (.tmp 40) (.tmp 41) rfl vb ya [1] (some ⟨wb.heap.size, 0, none⟩) 1 1 rfl rfl HAg.out HOg.out (by omega) ?_; intro vc wc hac hkc; rw [← HQb.out] at hac; have HAc := Aside0.mk hac; have HXc := Aside0.mk (Stay.block HAg.out hkc.kept HXg.out (by decide)); clear hac hkc p1; have p2 : wc.cell? ⟨wr.heap.size, 2, none⟩ = some (.int .i64 c.z.f2.f0) := (blk_cell HXc.out 2).trans rfl; have p3 : wc.cell? ⟨wr.heap.size, 3, none⟩ = some (.int .i64 c.z.f2.f1) := (blk_cell HXc.out 3).trans rfl; have p4 : wc.cell? ⟨wr.heap.size, 4, none⟩ = some (.string c.z.f2.f2) := (blk_cell HXc.out 4).trans rfl) | (go_at_call 74; (with_reducible refine (refPut_calls c.z.f2 wc HCO.out.mn).mono ?_); rintro e wd ⟨vd, rfl, hrd, hbd⟩; obtain ⟨Ad, cd, rfl, hld, hcd⟩ := Kd.R_reads hrd; have HAd := Aside0.mk (HAc.out.below hbd); have HCd := Aside0.mk hcd; have HXd := Aside0.mk ((hbd.block _ (blk_lt HXc.out)).trans HXc.out); clear hrd hbd hld hcd p2 p3 p4) | ((with_reducible refine gate_builtin (b := .append) (xs := #[.tmp 43, .tmp 46]) rfl ?_); at_builtin; refine app_rows rfl (.tmp 43) (.tmp 46) rfl vc yb (valP c.z.f2) Ad (valP c.z.f2).length cd rfl rfl HAd.out HCd.out (by omega) ?_; intro vh wh hah hkh; rw [← HQc.out] at hah; have HAh := Aside0.mk hah; have HXh := Aside0.mk (Stay.block HAd.out hkh.kept HXd.out (by decide)); clear hah hkh ; have p5 : wh.cell? ⟨wr.heap.size, 5, none⟩ = some (.int .i64 c.z.f3.f0) := (blk_cell HXh.out 5).trans rfl; have p6 : wh.cell? ⟨wr.heap.size, 6, none⟩ = some (.int .i64 c.z.f3.f1) := (blk_cell HXh.out 6).trans rfl; have p7 : wh.cell? ⟨wr.heap.size, 7, none⟩ = some (.string c.z.f3.f2) := (blk_cell HXh.out 7).trans rfl) | (go_at_call 74; (with_reducible refine (refPut_calls c.z.f3 wh HCO.out.mx).mono ?_); rintro e wk ⟨vk, rfl, hrk, hbk⟩; obtain ⟨Ak, ck, rfl, hlk, hck⟩ := Kd.R_reads hrk; have HAk := Aside0.mk (HAh.out.below hbk); have HCk := Aside0.mk hck; have HXk := Aside0.mk ((hbk.block _ (blk_lt HXh.out)).trans HXh.out); clear hrk hbk hlk hck p5 p6 p7) | ((with_reducible refine gate_builtin (b := .append) (xs := #[.tmp 48, .tmp 51]) rfl ?_); at_builtin; refine app_rows rfl (.tmp 48) (.tmp 51) rfl vh yc (valP c.z.f3) Ak (valP c.z.f3).length ck rfl rfl HAk.out HCk.out (by omega) ?_; intro vm wm ham hkm; rw [← HQd.out] at ham; have HAm := Aside0.mk ham; have HXm := Aside0.mk (Stay.block HAk.out hkm.kept HXk.out (by decide)); clear ham hkm ; have q34 : wm.cell? ⟨w.heap.size, 34, none⟩ = some (.slice (some ⟨b, o, none⟩) x.cols.length c0) := pw_cell_below HAm.out.bel Q34.out; have hce := hash_C (range_below HMH.out HAm.out.bel) (by rw [HH.out]; omega); rw [HH.out] at hce; have HCe2 := Aside0.mk hce; clear hce) | ((with_reducible refine gate_builtin (b := .append) (xs := #[.tmp 56, .tmp 62]) rfl ?_); at_builtin; refine app_rows rfl (.tmp 56) (.tmp 62) rfl vm yd c.h (some ⟨b, o + i * 40 + 8, none⟩) 32 32 rfl rfl HAm.out HCe2.out (by omega) ?_; intro vz wz haz hkz; rw [← HQe.out] at haz; have HAz := Aside0.mk haz; clear haz hkz ))
        go_roundw
        case rel => exact ⟨i + 1, ye, by omega, by go_num, HAz, HEe⟩
        case measure => simp [intOf]; omega
    · obtain rfl : i = x.cols.length := by omega
      have he := HE.out
      rw [List.drop_eq_nil_of_le (Nat.le_refl _), colsF, List.append_nil] at he
      subst he
      go_wp2
      go_ret
      exact ⟨_, rfl, HY.out.res HBW.out⟩
end Go.Proofs.YtjmhiklmlgbifaaGreatDoor.PMan
end

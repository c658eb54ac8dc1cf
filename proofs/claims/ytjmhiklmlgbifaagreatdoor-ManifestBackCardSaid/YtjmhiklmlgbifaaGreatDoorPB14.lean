/- Texts of this proof, put into one, without what it does not use: MpL. -/
import Derived.Test.YtjmhiklmlgbifaaGreatDoorPB13
section
namespace Go.Proofs.YtjmhiklmlgbifaaGreatDoor.PMan
open Go.RowKit Go.Proofs.YtjmhiklmlgbifaaGreatDoorW.PrintWords Go.Proofs.YtjmhiklmlgbifaaGreatDoorW.PrintLast Go.Proofs.YtjmhiklmlgbifaaGreatDoorW.PrintMore
set_option linter.unusedVariables false
set_option linter.unusedSimpArgs false
theorem hash_C {w : World} {b n : Nat} {h : List Int} (hr : w.rangeAt b n (hashCells h)) (hl : h.length ≤ 9223372036854775807) : Kd.C (Kd.int .u8) w (some ⟨b, n, none⟩) h.length h := by
  refine ⟨rfl, hl, fun _ => ⟨_, rfl, fun j p hj => ⟨[.int .u8 p], rfl, rfl, fun i u hu => ?_⟩⟩⟩
  match i, hu with
  | i + 1, hu => simp at hu
  | 0, hu =>
    obtain rfl : Value.int .u8 p = u := by simpa using hu
    rw [Addr.add_mid, show n + (j * (Kd.int IntKind.u8).sz + 0) = n + j from by show n + (j * 1 + 0) = n + j; omega]
    exact hr j _ (by unfold hashCells; rw [List.getElem?_map, hj]; rfl)
theorem app_varW (w0 w : World) (u : Value) (l : List Int) (x : Int) (ha : App w0 w u l) (h0 : 0 ≤ x) (h1 : x < 18446744073709551616) (hl : l.length < 100000000000000) :
    Calls Tryz.prog 29 #[u, .int .u64 (IntKind.u64.wrap x)] w fun e w' => ∃ v, e = .returned v ∧ App w0 w' v (l ++ varP x) ∧ Grew w w' u v := by
  rw [u64_small x h0 h1]
  exact app_var w0 w u l x ha h0 h1 hl
theorem app_rows_step {ops : Array Oper} {o : Oper} {a : Act} {w0 W : World} {Q : Exit → Act → World → Prop} {Kc : Act → World → Prop} (hw : Region.wanted o (yielded ops a.tmps) = true) (s x : Operand)
    (ho : o.op = .call { callee := .builtin .append, args := #[s, x], argTypes := #[30, 30] }) (u : Value) (l ys : List Int) (A : Option Addr) (m c : Nat) (hs : a.eval s = u) (hx : a.eval x = .slice A m c)
    (ha : App w0 W u l) (hr : Kd.C (Kd.int .u8) W A m ys) (hl : l.length + m ≤ 100000000000000)
    (h : ∀ v1 w1, App w0 w1 v1 (l ++ ys) → Grew W w1 u v1 → Kc (a.put o.dst v1) w1) :
    if Region.wanted o (yielded ops a.tmps) = true then Oper.wp Tryz.prog o a W Kc Q else Kc (a.put o.dst undef) W := by
  refine Kd.R_append_rows_step (Kd.int .u8) (w0 := w0) w0.heap.size hw s x 30 5 (.int .u8 0) 1 ho Tryz.underlying30 info5 rfl (by decide) (by omega) u l ys A m c (fun _ => True) (fun _ => False) hs hx ha.own hr (fun _ _ h => h) (fun _ h => h.elim) (fun _ _ => trivial) ha.bel ha.bel.size (by omega) ?_
  intro v1 w1 h1 hb hg hat
  exact h v1 w1 ⟨hb, h1⟩ ⟨Kept.of_grown hg (Kept.refl W _) (fun k hk => .inl hk), fun k hk => by
    rcases hat with h | ⟨b, hb1, hb2⟩
    · exact .inl (h ▸ hk)
    · rw [hb1] at hk
      exact .inr (Option.some.inj hk ▸ hb2)⟩
theorem valP_len (v : S68) (h : ValOk v) : (valP v).length ≤ v.f2.size + 30 := by
  have h1 := varP_len (zigP v.f1)
  have h2 := varP_len ((txtP v.f2).length : Int)
  have h3 := txtP_length v.f2
  unfold valP blobP
  rw [List.length_cons]
  split
  · omega
  · split
    · rw [List.length_append]; omega
    · simp
def zoneF (z : S70) : List Int := if z.f1 = true then 1 :: (valP z.f2 ++ valP z.f3) else [0]
def colF (c : CH) : List Int := varP c.z.f0 ++ (zoneF c.z ++ c.h)
def colsF : List CH → List Int
  | [] => []
  | c :: l => colF c ++ colsF l
def headP (x : Hd) : List Int := varP x.rows ++ (varP x.live ++ (x.dead ++ colsF x.cols))
structure ColOk (c : CH) : Prop where
  n0 : 0 ≤ c.z.f0
  n1 : c.z.f0 < 18446744073709551616
  mn : ValOk c.z.f2
  mx : ValOk c.z.f3
  h : c.h.length = 32
structure HdOk (x : Hd) : Prop where
  r0 : 0 ≤ x.rows
  r1 : x.rows < 18446744073709551616
  l0 : 0 ≤ x.live
  l1 : x.live < 18446744073709551616
  d : x.dead.length = 32
  c : ∀ c ∈ x.cols, ColOk c
theorem chunk_C {w : World} {b : Nat} {z : S70} {h : List Int} {t : TypeId} (hx : w.heap[b]? = some (.cells (zCells z ++ hashCells h).toArray t (0, 0))) (hl : h.length = 32) : Kd.C (Kd.int .u8) w (some ⟨b, 8, none⟩) 32 h := by
  have := hash_C (range_of (pre := zCells z) (cs := hashCells h) (post := []) (by rw [List.append_nil]; exact hx) 8 rfl) (by omega)
  rw [hl] at this
  exact this
set_option maxHeartbeats 3200000 in
set_option maxRecDepth 100000 in
theorem putHeader_calls (x : Hd) (A : Option Addr) (c0 : Nat) (w : World) (hok : HdOk x) (hc : x.cols.length ≤ c0) (hr : kCH.C w A x.cols.length x.cols) (hl : (headP x).length < 10000000000) :
    Calls Tryz.prog 31 #[.agg (hdCells x A c0).toArray] w fun e w' => ∃ v, e = .returned v ∧ Kd.R (Kd.int .u8) 5 w' w.heap.size (fun _ => True) v (headP x) ∧ Below w.heap.size w w' := by
  have hd := hok.d
  have i0 : (hdCells x A c0).toArray[0]? = some (.int .i64 x.rows) := rfl
  have i1 : (hdCells x A c0).toArray[1]? = some (.int .i64 x.live) := rfl
  have i34 : (hdCells x A c0).toArray[34]? = some (.slice A x.cols.length c0) := by
    rw [List.getElem?_toArray]
    unfold hdCells hashCells
    rw [List.getElem?_cons_succ, List.getElem?_cons_succ, List.getElem?_append_right (by rw [List.length_map]; omega), List.length_map, hd]
    rfl
  have hrg : ∀ W : World, W.heap[w.heap.size]? = some (.cells (hdCells x A c0).toArray 64 (0, 0)) → W.rangeAt w.heap.size 2 (hashCells x.dead) := fun W h => range_of (pre := [.int .i64 x.rows, .int .i64 x.live]) (cs := hashCells x.dead) (post := [.slice A x.cols.length c0]) h 2 rfl
  generalize (hdCells x A c0).toArray = cc at *
  have HRG := Aside0.mk hrg
  have HR := Aside0.mk hr
  have HOK := Aside0.mk hok
  have HI34 := Aside0.mk i34
  have HI1 := Aside0.mk i1
  have HD := Aside0.mk hd
  have hb : x.cols.length ≤ 9223372036854775807 := hr.2.1
  clear hr hok i34 hd hrg
  obtain ⟨T, hT⟩ : ∃ T, T = headP x := ⟨_, rfl⟩
  rw [← hT] at hl ⊢
  have HT := Aside0.mk hT
  clear hT
  go_enter Tryz.func31, Tryz.ntmps31
  go_wp2_with fail
  have hbw : Below w.heap.size w (w.alloc (.cells cc 64)).drew := below_drew (below_alloc (Below.refl _ _) _)
  have hx : (w.alloc (.cells cc 64)).drew.heap[w.heap.size]? = some (.cells cc 64 (0, 0)) := heap_alloc_new w _
  have c0 := (blk_cell hx 0).trans i0
  have c1 := (blk_cell hx 1).trans HI1.out
  have HX := Aside0.mk hx
  have HBW := Aside0.mk hbw
  clear hx hbw i0 i1
  refine start_ (n := 9) (S := fun w' => w'.cell? ⟨w.heap.size, 0, none⟩ = some (.int .i64 x.rows) ∧ w'.cell? ⟨w.heap.size, 1, none⟩ = some (.int .i64 x.live)) (ds := []) #[false, false, false, false, false, false, false, false, false] (by kernel_rfl) rfl rfl ⟨c0, c1⟩ (fun hHeld => ?_)
  generalize (w.alloc (.cells cc 64)).drew = W2 at *
  refine pure_ (i := 0) (N := some 6) (v := ?_) (a' := ?_) #[true, false, false, false, false, false, false, false, false] rfl rfl (by kernel_rfl) (fun _ _ _ h => h) (Or.inl ⟨by rfl, ?_⟩) ?_ ?_
  rotate_left
  · intro w'
    go_simp
    with_reducible rfl
  rotate_left
  · simp only [Act.put, List.setIfInBounds_toArray, List.set_cons_zero, List.set_cons_succ, i64_w, i32_w]
    rfl
  refine pure_ (i := 4) (N := some 10) (v := ?_) (a' := ?_) #[true, false, false, false, true, false, false, false, false] rfl rfl (by kernel_rfl) (fun _ _ _ h => h) (Or.inl ⟨by rfl, ?_⟩) ?_ ?_
  rotate_left
  · intro w'
    go_simp
    with_reducible rfl
  rotate_left
  · simp only [Act.put, List.setIfInBounds_toArray, List.set_cons_zero, List.set_cons_succ, i64_w, i32_w]
    rfl
  refine take_ (i := 1) (N := some 7) (v := ?_) (a' := ?_) #[true, true, false, false, true, false, false, false, false] rfl rfl (by kernel_rfl) (fun _ _ _ h => h) (Or.inl ⟨by rfl, ?_⟩) hHeld ?_ ?_
  rotate_left
  · rintro w' ⟨s0, s1⟩
    go_simp
    with_reducible rfl
  rotate_left
  · simp only [Act.put, List.setIfInBounds_toArray, List.set_cons_zero, List.set_cons_succ, i64_w, i32_w]
    rfl
  refine pure_ (i := 2) (N := some 8) (v := ?_) (a' := ?_) #[true, true, true, false, true, false, false, false, false] rfl rfl (by kernel_rfl) (fun _ _ _ h => h) (Or.inl ⟨by rfl, ?_⟩) ?_ ?_
  rotate_left
  · intro w'
    go_simp
    with_reducible rfl
  rotate_left
  · simp only [Act.put, List.setIfInBounds_toArray, List.set_cons_zero, List.set_cons_succ, i64_w, i32_w]
    rfl
  refine take_ (i := 5) (N := some 11) (v := ?_) (a' := ?_) #[true, true, true, false, true, true, false, false, false] rfl rfl (by kernel_rfl) (fun _ _ _ h => h) (Or.inl ⟨by rfl, ?_⟩) hHeld ?_ ?_
  rotate_left
  · rintro w' ⟨s0, s1⟩
    go_simp
    with_reducible rfl
  rotate_left
  · simp only [Act.put, List.setIfInBounds_toArray, List.set_cons_zero, List.set_cons_succ, i64_w, i32_w]
    rfl
  refine pure_ (i := 6) (N := some 12) (v := ?_) (a' := ?_) #[true, true, true, false, true, true, true, false, false] rfl rfl (by kernel_rfl) (fun _ _ _ h => h) (Or.inl ⟨by rfl, ?_⟩) ?_ ?_
  rotate_left
  · intro w'
    go_simp
    with_reducible rfl
  rotate_left
  · simp only [Act.put, List.setIfInBounds_toArray, List.set_cons_zero, List.set_cons_succ, i64_w, i32_w]
    rfl
  refine one_ (i := 3) (N := some 9) #[true, true, true, true, true, true, true, false, false] rfl rfl (by kernel_rfl) (by decide) (fun K hK => ?_)
  refine goes_ Tryz.func29 (by kernel_rfl) rfl #[.slice none 0 0, .int .u64 (IntKind.u64.wrap x.rows)] (by rfl) rfl rfl (by simp only [List.map_toArray, List.map_cons, List.map_nil]; rfl) ?_
  with_reducible refine (app_varW W2 W2 _ _ x.rows (App.nil W2) HOK.out.r0 HOK.out.r1 (by decide)).mono ?_
  rintro e w3 ⟨v3, rfl, ha3, hk3⟩
  refine ⟨_, rfl, ?_⟩
  have HA3 := Aside0.mk ha3
  clear ha3 hk3
  refine hK.out _ _ ⟨pw_cell_below HA3.out.bel c0, pw_cell_below HA3.out.bel c1⟩ (fun hHeld => ?_)
  clear hK K
  refine norm_ (a' := ?_) ?_ ?_
  rotate_left
  · show Act.put _ (some 9) _ = _
    simp only [Act.put, List.setIfInBounds_toArray, List.set_cons_zero, List.set_cons_succ, i64_w, i32_w]
    rfl
  refine one_ (i := 7) (N := some 13) #[true, true, true, true, true, true, true, true, false] rfl rfl (by kernel_rfl) (by decide) (fun K hK => ?_)
  refine goes_ Tryz.func29 (by kernel_rfl) rfl #[v3, .int .u64 (IntKind.u64.wrap x.live)] (by rfl) rfl rfl (by simp only [List.map_toArray, List.map_cons, List.map_nil]; rfl) ?_
  with_reducible refine (app_varW W2 w3 v3 _ x.live HA3.out HOK.out.l0 HOK.out.l1 (by have := varP_len x.rows; rw [List.nil_append]; omega)).mono ?_
  rintro e w4 ⟨v4, rfl, ha4, hk4⟩
  refine ⟨_, rfl, ?_⟩
  have HA4 := Aside0.mk ha4
  clear ha4 hk4
  refine hK.out _ _ ⟨pw_cell_below HA4.out.bel c0, pw_cell_below HA4.out.bel c1⟩ (fun hHeld => ?_)
  clear hK K
  refine norm_ (a' := ?_) ?_ ?_
  rotate_left
  · show Act.put _ (some 13) _ = _
    simp only [Act.put, List.setIfInBounds_toArray, List.set_cons_zero, List.set_cons_succ, i64_w, i32_w]
    rfl
  refine pure_ (i := 8) (N := some 3) (v := ?_) (a' := ?_) #[true, true, true, true, true, true, true, true, true] rfl rfl (by kernel_rfl) (fun _ _ _ h => h) (Or.inl ⟨by rfl, ?_⟩) ?_ ?_
  rotate_left
  · intro w'
    go_simp
    with_reducible rfl
  rotate_left
  · simp only [Act.put, List.setIfInBounds_toArray, List.set_cons_zero, List.set_cons_succ, i64_w, i32_w]
    rfl
  refine done_ (by kernel_rfl) ?_
  have HX4 := Aside0.mk ((HA4.out.bel.block _ (blk_lt HX.out)).trans HX.out)
  have hC4 := hash_C (HRG.out w4 HX4.out) (by rw [HD.out]; omega)
  rw [HD.out] at hC4
  have HC4 := Aside0.mk hC4
  clear hC4
  obtain ⟨y4, hy4⟩ : ∃ y, y = ([] ++ varP x.rows) ++ varP x.live := ⟨_, rfl⟩
  rw [← hy4] at HA4
  have HY4 := Aside0.mk hy4
  have hy4l : y4.length ≤ 20 := by
    have h1 := varP_len x.rows
    have h2 := varP_len x.live
    rw [hy4, List.nil_append, List.length_append]
    omega
  clear hy4
  go_wp2_with ((with_reducible refine gate_builtin (b := .append) (xs := #[.tmp 14, .tmp 16]) rfl ?_); at_builtin; refine app_rows rfl (.tmp 14) (.tmp 16) rfl v4 y4 x.dead (some ⟨w.heap.size, 2, none⟩) 32 32 rfl rfl HA4.out HC4.out (by omega) ?_; intro v5 w5 ha5 hk5; have HA5 := Aside0.mk ha5; have HX5 := Aside0.mk ((ha5.bel.block _ (blk_lt HX.out)).trans HX.out); have c34 := (blk_cell HX5.out 34).trans HI34.out; clear ha5 hk5)
  clear c0 c1 c34
  go_loopw [3, 21] (fun vb v21 w' => ∃ (i : Nat) (y : List Int), i ≤ x.cols.length ∧ v21 = .int .i64 i ∧ Aside0 (App W2 w' vb y) ∧ Aside0 (y ++ colsF (x.cols.drop i) = T)) (fun _ i _ => x.cols.length - (intOf i).toNat)
  case atStart => exact ⟨0, _, Nat.zero_le _, rfl, HA5, ⟨by rw [HT.out, HY4.out, headP, List.nil_append, List.drop_zero, List.append_assoc, List.append_assoc]⟩⟩
  case round =>
    obtain ⟨i, y, hi, rfl, HY, HE⟩ := hrel
    by_cases hlt : i < x.cols.length
    · have HRr := Kd.C_below (Kd.C_below HR.out HBW.out) HY.out.bel
      obtain ⟨b, o, cs, e1, hK, hcl, hm⟩ := C_mid HRr zCH i hlt (by decide)
      cases e1
      have hco : ColOk (x.cols.getD i zCH) := HOK.out.c _ (getD_mem x.cols i zCH hlt)
      have he := HE.out
      rw [drop_cons x.cols i zCH hlt, colsF] at he
      generalize x.cols.getD i zCH = c at *
      obtain ⟨rfl, hh⟩ := kCH_open hK
      rw [kCH_sz] at hm hcl
      have HCL := Aside0.mk hcl
      have HM := Aside0.mk hm
      have HCO := Aside0.mk hco
      have HE2 := Aside0.mk he
      have HSZ := Aside0.mk (show ((zCells c.z ++ hashCells c.h).toArray).size = 40 from by rw [List.size_toArray]; exact hcl)
      have hyl : y.length < 10000000000 := by
        have := congrArg List.length he
        rw [List.length_append] at this
        omega
      clear hK hcl hm hco he HE HRr
      obtain ⟨y5, hy5⟩ : ∃ y5, y5 = y ++ varP c.z.f0 := ⟨_, rfl⟩
      have hy5l : y5.length < 10000000010 := by
        have h1 := varP_len c.z.f0
        rw [hy5, List.length_append]
        omega
      have HY5 := Aside0.mk hy5l
      have HQ5 := Aside0.mk hy5
      clear hy5
      have HHH := Aside0.mk hh
      clear hh
      cases hsm : c.z.f1 with
      | false =>
        have HSM := Aside0.mk hsm
        obtain ⟨y7, hy7⟩ : ∃ y7, y7 = y5 ++ [(0 : Int)] := ⟨_, rfl⟩
        have hy7l : y7.length < 10000000020 := by rw [hy7, List.length_append, List.length_singleton]; omega
        have HQ7 := Aside0.mk hy7
        clear hy7 hsm
        go_wp2_with (first | (refine wpList_load_mid rfl 72 (.tmp 23) rfl b (o + i * 40) rfl (zCells c.z ++ hashCells c.h) _ HM.out Tryz.underlying72 rfl (by rw [HCL.out]; kernel_rfl) ?_) | (refine wpList_store_row rfl 72 (.tmp 5) (.tmp 24) rfl wr.heap.size ((zCells c.z ++ hashCells c.h).toArray) rfl rfl 72 _ (heap_alloc_new wr _) (by rw [HSZ.out]; kernel_rfl) (by rw [HSZ.out]; rfl) (ch_all _ _) ?_; rw [World.setRow_alloc_new]; have hx := heap_alloc_new wr (.cells (zCells c.z ++ hashCells c.h).toArray 72); have hbr : Below wr.heap.size wr (wr.alloc (.cells (zCells c.z ++ hashCells c.h).toArray 72)) := below_alloc (Below.refl _ _) _; have HA6 := Aside0.mk (HY.out.below hbr); have HX6 := Aside0.mk hx; clear hx hbr; generalize (wr.alloc (.cells (zCells c.z ++ hashCells c.h).toArray 72)) = W6 at *; have z0 : W6.cell? ⟨wr.heap.size, 0, none⟩ = some (.int .i64 c.z.f0) := (blk_cell HX6.out 0).trans rfl) | (go_at_call 29; refine (app_varW W2 W6 _ y c.z.f0 HA6.out HCO.out.n0 HCO.out.n1 (by omega)).mono ?_; rintro e w5 ⟨v5, rfl, ha5, hk5⟩; rw [← HQ5.out] at ha5; have HA5 := Aside0.mk ha5; have HX5 := Aside0.mk (Stay.block HA6.out hk5.kept HX6.out (by decide)); clear ha5 hk5; have z1 : w5.cell? ⟨wr.heap.size, 1, none⟩ = some (.bool false) := (blk_cell HX5.out 1).trans (by show some (Value.bool c.z.f1) = _; rw [HSM.out])) | ((with_reducible refine gate_builtin (b := .append) (xs := #[.tmp 45, .tmp 46]) rfl ?_); at_builtin; have HA6 := Aside0.mk (HA5.out.below (below_alloc (Below.refl _ _) (.cells #[.int .u8 0] 5))); have HO6 := Aside0.mk (one_C (heap_alloc_new w5 (.cells #[.int .u8 0] 5))); have HX6 := Aside0.mk (((below_alloc (Below.refl w5.heap.size w5) (.cells #[.int .u8 0] 5)).block _ (blk_lt HX5.out)).trans HX5.out); generalize w5.alloc (.cells #[.int .u8 0] 5) = W6 at *; refine app_rows rfl (.tmp 45) (.tmp 46) rfl v5 y5 [0] (some ⟨w5.heap.size, 0, none⟩) 1 1 rfl rfl HA6.out HO6.out (by omega) ?_; intro v7 w7 ha7 hk7; rw [← HQ7.out] at ha7; have HA7 := Aside0.mk ha7; have hx7 := Stay.block HA6.out hk7.kept HX6.out (by decide); have HC7 := Aside0.mk (chunk_C hx7 HCO.out.h); clear hx7 ha7 hk7 z1) | ((with_reducible refine gate_builtin (b := .append) (xs := #[.tmp 48, .tmp 50]) rfl ?_); at_builtin; refine app_rows rfl (.tmp 48) (.tmp 50) rfl v7 y7 c.h (some ⟨wr.heap.size, 8, none⟩) 32 32 rfl rfl HA7.out HC7.out (by omega) ?_; intro v8 w8 ha8 hk8; have HA8 := Aside0.mk ha8; clear ha8 hk8))
        go_roundw
        case rel => exact ⟨i + 1, y7 ++ c.h, by omega, by go_num, HA8, ⟨by rw [← HE2.out, HQ7.out, HQ5.out, colF, zoneF, HSM.out, if_neg (by decide)]; simp only [List.append_assoc]⟩⟩
        case measure => simp [intOf]; omega
      | true =>
        have HSM := Aside0.mk hsm
        obtain ⟨y7, hy7⟩ : ∃ y7, y7 = y5 ++ [(1 : Int)] := ⟨_, rfl⟩
        have hy7l : y7.length < 10000000020 := by rw [hy7, List.length_append, List.length_singleton]; omega
        have HQ7 := Aside0.mk hy7
        obtain ⟨y8, hy8⟩ : ∃ y8, y8 = y7 ++ valP c.z.f2 := ⟨_, rfl⟩
        have hy8l : y8.length < 12000000020 := by have := valP_len c.z.f2 HCO.out.mn; have := HCO.out.mn.2; rw [hy8, List.length_append]; omega
        have HQ8 := Aside0.mk hy8
        obtain ⟨y9, hy9⟩ : ∃ y9, y9 = y8 ++ valP c.z.f3 := ⟨_, rfl⟩
        have hy9l : y9.length < 14000000020 := by have := valP_len c.z.f3 HCO.out.mx; have := HCO.out.mx.2; rw [hy9, List.length_append]; omega
        have HQ9 := Aside0.mk hy9
        clear hy7 hy8 hy9 hsm
        have HN1 := Aside0.mk (And.left HCO.out.mn)
        have HN2 := Aside0.mk (And.right HCO.out.mn)
        have HX1 := Aside0.mk (And.left HCO.out.mx)
        have HX2 := Aside0.mk (And.right HCO.out.mx)
        go_wp2_with (first | (refine wpList_load_mid rfl 72 (.tmp 23) rfl b (o + i * 40) rfl (zCells c.z ++ hashCells c.h) _ HM.out Tryz.underlying72 rfl (by rw [HCL.out]; kernel_rfl) ?_) | (refine wpList_store_row rfl 72 (.tmp 5) (.tmp 24) rfl wr.heap.size ((zCells c.z ++ hashCells c.h).toArray) rfl rfl 72 _ (heap_alloc_new wr _) (by rw [HSZ.out]; kernel_rfl) (by rw [HSZ.out]; rfl) (ch_all _ _) ?_; rw [World.setRow_alloc_new]; have hx := heap_alloc_new wr (.cells (zCells c.z ++ hashCells c.h).toArray 72); have hbr : Below wr.heap.size wr (wr.alloc (.cells (zCells c.z ++ hashCells c.h).toArray 72)) := below_alloc (Below.refl _ _) _; have HA6 := Aside0.mk (HY.out.below hbr); have HX6 := Aside0.mk hx; clear hx hbr; generalize (wr.alloc (.cells (zCells c.z ++ hashCells c.h).toArray 72)) = W6 at *; have z0 : W6.cell? ⟨wr.heap.size, 0, none⟩ = some (.int .i64 c.z.f0) := (blk_cell HX6.out 0).trans rfl) | (go_at_call 29; refine (app_varW W2 W6 _ y c.z.f0 HA6.out HCO.out.n0 HCO.out.n1 (by omega)).mono ?_; rintro e w5 ⟨v5, rfl, ha5, hk5⟩; rw [← HQ5.out] at ha5; have HA5 := Aside0.mk ha5; have HX5 := Aside0.mk (Stay.block HA6.out hk5.kept HX6.out (by decide)); clear ha5 hk5; have z1 : w5.cell? ⟨wr.heap.size, 1, none⟩ = some (.bool true) := (blk_cell HX5.out 1).trans (by show some (Value.bool c.z.f1) = _; rw [HSM.out])) | fail)
        have HAD : Aside0 (App W2 w5.drew v5 y5) := Aside0.mk (HA5.out.below (below_drew (Below.refl _ _)))
        have HXD : Aside0 (w5.drew.heap[wr.heap.size]? = some (.cells (zCells c.z ++ hashCells c.h).toArray 72 (0, 0))) := HX5
        clear z1
        refine start_ (n := 12) (S := fun w' => w'.cell? ⟨wr.heap.size, 2, none⟩ = some (.int .i64 c.z.f2.f0) ∧ w'.cell? ⟨wr.heap.size, 3, none⟩ = some (.int .i64 c.z.f2.f1) ∧ w'.cell? ⟨wr.heap.size, 4, none⟩ = some (.string c.z.f2.f2) ∧ w'.cell? ⟨wr.heap.size, 5, none⟩ = some (.int .i64 c.z.f3.f0) ∧ w'.cell? ⟨wr.heap.size, 6, none⟩ = some (.int .i64 c.z.f3.f1) ∧ w'.cell? ⟨wr.heap.size, 7, none⟩ = some (.string c.z.f3.f2)) (ds := []) #[false, false, false, false, false, false, false, false, false, false, false, false] (by kernel_rfl) rfl rfl ⟨(blk_cell HXD.out 2).trans rfl, (blk_cell HXD.out 3).trans rfl, (blk_cell HXD.out 4).trans rfl, (blk_cell HXD.out 5).trans rfl, (blk_cell HXD.out 6).trans rfl, (blk_cell HXD.out 7).trans rfl⟩ (fun hHeld => ?_)
        generalize w5.drew = WD at *
        refine pure_ (i := 0) (N := some 34) (v := ?_) (a' := ?_) #[true, false, false, false, false, false, false, false, false, false, false, false] rfl rfl (by kernel_rfl) (fun _ _ _ h => h) (Or.inl ⟨by rfl, ?_⟩) ?_ ?_
        rotate_left
        · intro w'
          go_simp
          with_reducible rfl
        rotate_left
        · simp only [Act.put, List.setIfInBounds_toArray, List.set_cons_zero, List.set_cons_succ, i64_w, i32_w]
          rfl
        refine pure_ (i := 3) (N := some 37) (v := ?_) (a' := ?_) #[true, false, false, true, false, false, false, false, false, false, false, false] rfl rfl (by kernel_rfl) (fun _ _ _ h => h) (Or.inl ⟨by rfl, ?_⟩) ?_ ?_
        rotate_left
        · intro w'
          go_simp
          with_reducible rfl
        rotate_left
        · simp only [Act.put, List.setIfInBounds_toArray, List.set_cons_zero, List.set_cons_succ, i64_w, i32_w]
          rfl
        refine pure_ (i := 4) (N := some 38) (v := ?_) (a' := ?_) #[true, false, false, true, true, false, false, false, false, false, false, false] rfl rfl (by kernel_rfl) (fun _ _ _ h => h) (Or.inl ⟨by rfl, ?_⟩) ?_ ?_
        rotate_left
        · intro w'
          go_simp
          with_reducible rfl
        rotate_left
        · simp only [Act.put, List.setIfInBounds_toArray, List.set_cons_zero, List.set_cons_succ, i64_w, i32_w]
          rfl
        refine pure_ (i := 7) (N := some 41) (v := ?_) (a' := ?_) #[true, false, false, true, true, false, false, true, false, false, false, false] rfl rfl (by kernel_rfl) (fun _ _ _ h => h) (Or.inl ⟨by rfl, ?_⟩) ?_ ?_
        rotate_left
        · intro w'
          go_simp
          with_reducible rfl
        rotate_left
        · simp only [Act.put, List.setIfInBounds_toArray, List.set_cons_zero, List.set_cons_succ, i64_w, i32_w]
          rfl
        refine pure_ (i := 8) (N := some 42) (v := ?_) (a' := ?_) #[true, false, false, true, true, false, false, true, true, false, false, false] rfl rfl (by kernel_rfl) (fun _ _ _ h => h) (Or.inl ⟨by rfl, ?_⟩) ?_ ?_
        rotate_left
        · intro w'
          go_simp
          with_reducible rfl
        rotate_left
        · simp only [Act.put, List.setIfInBounds_toArray, List.set_cons_zero, List.set_cons_succ, i64_w, i32_w]
          rfl
        refine take_ (i := 5) (N := some 39) (v := ?_) (a' := ?_) #[true, false, false, true, true, true, false, true, true, false, false, false] rfl rfl (by kernel_rfl) (fun _ _ _ h => h) (Or.inl ⟨by rfl, ?_⟩) hHeld ?_ ?_
        rotate_left
        · rintro w' ⟨s0, s1, s2, s3, s4, s5⟩
          go_simp
          with_reducible rfl
        rotate_left
        · simp only [Act.put, List.setIfInBounds_toArray, List.set_cons_zero, List.set_cons_succ, i64_w, i32_w]
          rfl
        refine take_ (i := 9) (N := some 43) (v := ?_) (a' := ?_) #[true, false, false, true, true, true, false, true, true, true, false, false] rfl rfl (by kernel_rfl) (fun _ _ _ h => h) (Or.inl ⟨by rfl, ?_⟩) hHeld ?_ ?_
        rotate_left
        · rintro w' ⟨s0, s1, s2, s3, s4, s5⟩
          go_simp
          with_reducible rfl
        rotate_left
        · simp only [Act.put, List.setIfInBounds_toArray, List.set_cons_zero, List.set_cons_succ, i64_w, i32_w]
          rfl
        refine one_ (i := 1) (N := some 35) #[true, true, false, true, true, true, false, true, true, true, false, false] rfl rfl (by kernel_rfl) (by decide) (fun K hK => ?_)
        refine value_ (w1 := ?_) (v := ?_) (by rfl) rfl ?_ ?_
        rotate_left 2
        · go_simp
          constructor
          · rfl
          · rfl
        have HA6 := Aside0.mk (HAD.out.below (below_alloc (Below.refl _ _) (.cells #[.int .u8 1] 5)))
        have HO6 := Aside0.mk (one_C (heap_alloc_new WD (.cells #[.int .u8 1] 5)))
        have HX6 := Aside0.mk (((below_alloc (Below.refl WD.heap.size WD) (.cells #[.int .u8 1] 5)).block _ (blk_lt HXD.out)).trans HXD.out)
        generalize WD.alloc (.cells #[.int .u8 1] 5) = W6 at *
        refine hK.out _ _ ⟨(blk_cell HX6.out 2).trans rfl, (blk_cell HX6.out 3).trans rfl, (blk_cell HX6.out 4).trans rfl, (blk_cell HX6.out 5).trans rfl, (blk_cell HX6.out 6).trans rfl, (blk_cell HX6.out 7).trans rfl⟩ (fun hHeld => ?_)
        clear hK K
        refine norm_ (a' := ?_) ?_ ?_
        rotate_left
        · show Act.put _ (some 35) _ = _
          simp only [Act.put, List.setIfInBounds_toArray, List.set_cons_zero, List.set_cons_succ, i64_w, i32_w]
          rfl
        refine one_ (i := 2) (N := some 36) #[true, true, true, true, true, true, false, true, true, true, false, false] rfl rfl (by kernel_rfl) (by decide) (fun K hK => ?_)
        refine app_rows_step (by rfl) (.tmp 34) (.tmp 35) (by rfl) v5 y5 [1] (some ⟨WD.heap.size, 0, none⟩) 1 1 rfl rfl HA6.out HO6.out (by omega) ?_
        intro v7 w7 ha7 hk7
        rw [← HQ7.out] at ha7
        have HA7 := Aside0.mk ha7
        have HX7 := Aside0.mk (Stay.block HA6.out hk7.kept HX6.out (by decide))
        clear ha7 hk7
        refine hK.out _ _ ⟨(blk_cell HX7.out 2).trans rfl, (blk_cell HX7.out 3).trans rfl, (blk_cell HX7.out 4).trans rfl, (blk_cell HX7.out 5).trans rfl, (blk_cell HX7.out 6).trans rfl, (blk_cell HX7.out 7).trans rfl⟩ (fun hHeld => ?_)
        clear hK K
        refine norm_ (a' := ?_) ?_ ?_
        rotate_left
        · show Act.put _ (some 36) _ = _
          simp only [Act.put, List.setIfInBounds_toArray, List.set_cons_zero, List.set_cons_succ, i64_w, i32_w]
          rfl
        refine one_ (i := 6) (N := some 40) #[true, true, true, true, true, true, true, true, true, true, false, false] rfl rfl (by kernel_rfl) (by decide) (fun K hK => ?_)
        refine goes_ Tryz.func69 (by kernel_rfl) rfl #[v7, .agg #[.int .i64 c.z.f2.f0, .int .i64 c.z.f2.f1, .string c.z.f2.f2]] (by rfl) rfl rfl (by simp only [List.map_toArray, List.map_cons, List.map_nil]; rfl) ?_
        with_reducible refine (app_val W2 w7 v7 y7 c.z.f2 HA7.out (by omega) HN1.out HN2.out).mono ?_
        rintro e w8 ⟨v8, rfl, ha8, hk8⟩
        refine ⟨_, rfl, ?_⟩
        rw [← HQ8.out] at ha8
        have HA8 := Aside0.mk ha8
        have HX8 := Aside0.mk (Stay.block HA7.out hk8.kept HX7.out (by decide))
        clear ha8 hk8
        refine hK.out _ _ ⟨(blk_cell HX8.out 2).trans rfl, (blk_cell HX8.out 3).trans rfl, (blk_cell HX8.out 4).trans rfl, (blk_cell HX8.out 5).trans rfl, (blk_cell HX8.out 6).trans rfl, (blk_cell HX8.out 7).trans rfl⟩ (fun hHeld => ?_)
        clear hK K
        refine norm_ (a' := ?_) ?_ ?_
        rotate_left
        · show Act.put _ (some 40) _ = _
          simp only [Act.put, List.setIfInBounds_toArray, List.set_cons_zero, List.set_cons_succ, i64_w, i32_w]
          rfl
        refine one_ (i := 10) (N := some 44) #[true, true, true, true, true, true, true, true, true, true, true, false] rfl rfl (by kernel_rfl) (by decide) (fun K hK => ?_)
        refine goes_ Tryz.func69 (by kernel_rfl) rfl #[v8, .agg #[.int .i64 c.z.f3.f0, .int .i64 c.z.f3.f1, .string c.z.f3.f2]] (by rfl) rfl rfl (by simp only [List.map_toArray, List.map_cons, List.map_nil]; rfl) ?_
        with_reducible refine (app_val W2 w8 v8 y8 c.z.f3 HA8.out (by omega) HX1.out HX2.out).mono ?_
        rintro e w9 ⟨v9, rfl, ha9, hk9⟩
        refine ⟨_, rfl, ?_⟩
        rw [← HQ9.out] at ha9
        have HA9 := Aside0.mk ha9
        have HX9 := Aside0.mk (Stay.block HA8.out hk9.kept HX8.out (by decide))
        clear ha9 hk9
        refine hK.out _ _ ⟨(blk_cell HX9.out 2).trans rfl, (blk_cell HX9.out 3).trans rfl, (blk_cell HX9.out 4).trans rfl, (blk_cell HX9.out 5).trans rfl, (blk_cell HX9.out 6).trans rfl, (blk_cell HX9.out 7).trans rfl⟩ (fun hHeld => ?_)
        clear hK K
        refine norm_ (a' := ?_) ?_ ?_
        rotate_left
        · show Act.put _ (some 44) _ = _
          simp only [Act.put, List.setIfInBounds_toArray, List.set_cons_zero, List.set_cons_succ, i64_w, i32_w]
          rfl
        refine pure_ (i := 11) (N := some 3) (v := ?_) (a' := ?_) #[true, true, true, true, true, true, true, true, true, true, true, true] rfl rfl (by kernel_rfl) (fun _ _ _ h => h) (Or.inl ⟨by rfl, ?_⟩) ?_ ?_
        rotate_left
        · intro w'
          go_simp
          with_reducible rfl
        rotate_left
        · simp only [Act.put, List.setIfInBounds_toArray, List.set_cons_zero, List.set_cons_succ, i64_w, i32_w]
          rfl
        refine done_ (by kernel_rfl) ?_
        have HC9 := Aside0.mk (chunk_C HX9.out HCO.out.h)
        go_wp2_with ((with_reducible refine gate_builtin (b := .append) (xs := #[.tmp 48, .tmp 50]) rfl ?_); at_builtin; refine app_rows rfl (.tmp 48) (.tmp 50) rfl v9 y9 c.h (some ⟨wr.heap.size, 8, none⟩) 32 32 rfl rfl HA9.out HC9.out (by omega) ?_; intro va wa haa hka; have HAA := Aside0.mk haa; clear haa hka)
        go_roundw
        case rel => exact ⟨i + 1, y9 ++ c.h, by omega, by go_num, HAA, ⟨by rw [← HE2.out, HQ9.out, HQ8.out, HQ7.out, HQ5.out, colF, zoneF, HSM.out, if_pos rfl]; simp only [List.append_assoc, List.cons_append, List.nil_append]⟩⟩
        case measure => simp [intOf]; omega
    · obtain rfl : i = x.cols.length := by omega
      have he := HE.out
      rw [List.drop_eq_nil_of_le (Nat.le_refl _), colsF, List.append_nil] at he
      subst he
      go_wp2
      go_ret
      exact ⟨_, rfl, Kd.R_lower HY.out.own HBW.out.size, HBW.out.trans (HY.out.bel.mono HBW.out.size)⟩
end Go.Proofs.YtjmhiklmlgbifaaGreatDoor.PMan
end

-- Printed for this claim by a program of this session's own (it runs the kit's print another way): Lean checks it.
import Derived.Test.YtibdikihgdkfnaaGreatDoorPStox0
import Derived.Test.YtibdikihgdkfnaaGreatDoorPStox12
import Derived.Test.YtibdikihgdkfnaaGreatDoorPStox17
namespace Go.Proofs.YtibdikihgdkfnaaGreatDoor.PSto
open Go.RowKit Go.Proofs.YtibdikihgdkfnaaGreatDoorW.PrintWords Go.Proofs.YtibdikihgdkfnaaGreatDoorW.PrintLast Go.Proofs.YtibdikihgdkfnaaGreatDoorW.PrintMore
attribute [local go_sem] max2_int min2_int max_two min_two max_three min_three max_four min_four   -- for this text's walks alone
set_option linter.unusedVariables false
set_option linter.unusedSimpArgs false

/-! ### num_Reader_Fix: function 161 -/
def fixv : List Int → Option Int
  | [] => some 0
  | [a] => some (Go.bits .or .u64 0 (IntKind.u64.wrap a))
  | [a, b, c, d] => some (Go.bits .or .u64 (Go.bits .or .u64 (Go.bits .or .u64 (Go.bits .or .u64 0 (IntKind.u64.wrap (IntKind.u64.wrap d * 16777216))) (IntKind.u64.wrap (IntKind.u64.wrap c * 65536))) (IntKind.u64.wrap (IntKind.u64.wrap b * 256))) (IntKind.u64.wrap a))
  | _ => none
/-- r.Fix(n), n 1 or 4. -/
def num_Reader_Fix.f (s0 : List Int) (s1 s2 s3 : Int) (a1 : Int) : Option (Int × Int × Int × Int) :=
  if a1 = 1 ∨ a1 = 4 then (num_Reader_Take.f s0 s1 s2 s3 a1).bind fun r => (fixv r.1).bind fun v => some (v, r.2) else none
set_option maxHeartbeats 1600000 in
set_option maxRecDepth 100000 in
theorem rd_fix_0 (n : Nat) (hn : n = 1 ∨ n = 4) (g : Nat) (s0 : List Int) (s1 s2 s3 : Int) (v : Int) (r2 r3 r4 : Int) (w0 w : World) (hI : RD w0 w g s0 s1 s2 s3) (hB : Below w0.heap.size w0 w) (h : num_Reader_Take.f s0 s1 s2 s3 n = some ([], r2, r3, r4)) (hv : fixv [] = some v) :
    Calls Tryz.prog 161 #[.pointer (some ⟨g, 0, none⟩), .int .i64 n] w fun e w' => e = .returned (.int .u64 v) ∧ RD w0 w' g s0 r2 r3 r4 ∧ Below w0.heap.size w0 w' ∧ KeepBut w w' g none := by
  have HI := Aside0.mk hI
  have HB := Aside0.mk hB
  have HF := Aside0.mk h
  have hn8 : ¬ ((8 : Int) < (n : Int)) := by omega
  have HV := Aside0.mk (Option.some.inj hv)
  clear hI hB h hn hv
  go_enter Tryz.func161, Tryz.ntmps161
  go_wp2_with fail
  refine (num_Reader_Take.calls g s0 s1 s2 s3 n _ r2 r3 r4 w0 _ HI.out HB.out HF.out).mono ?_
  rintro e w1 ⟨vv, rfl, hr, h1, h2, h3⟩
  obtain ⟨A, c, rfl⟩ := Kd.R_slice hr
  have H1 := Aside0.mk h1
  have H2 := Aside0.mk h2
  have H3 := Aside0.mk h3
  clear hr h1 h2 h3
  go_wp2
  go_ret
  exact ⟨by rw [← HV.out]; rfl, H1.out, H2.out, H3.out⟩
set_option maxHeartbeats 1600000 in
set_option maxRecDepth 100000 in
theorem rd_fix_1 (n : Nat) (hn : n = 1 ∨ n = 4) (g : Nat) (s0 : List Int) (s1 s2 s3 : Int) (x0 v : Int) (r2 r3 r4 : Int) (w0 w : World) (hI : RD w0 w g s0 s1 s2 s3) (hB : Below w0.heap.size w0 w) (h : num_Reader_Take.f s0 s1 s2 s3 n = some ([x0], r2, r3, r4)) (hv : fixv [x0] = some v) :
    Calls Tryz.prog 161 #[.pointer (some ⟨g, 0, none⟩), .int .i64 n] w fun e w' => e = .returned (.int .u64 v) ∧ RD w0 w' g s0 r2 r3 r4 ∧ Below w0.heap.size w0 w' ∧ KeepBut w w' g none := by
  have HI := Aside0.mk hI
  have HB := Aside0.mk hB
  have HF := Aside0.mk h
  have hn8 : ¬ ((8 : Int) < (n : Int)) := by omega
  have HV := Aside0.mk (Option.some.inj hv)
  clear hI hB h hn hv
  go_enter Tryz.func161, Tryz.ntmps161
  go_wp2_with fail
  refine (num_Reader_Take.calls g s0 s1 s2 s3 n _ r2 r3 r4 w0 _ HI.out HB.out HF.out).mono ?_
  rintro e w1 ⟨vv, rfl, hr, h1, h2, h3⟩
  obtain ⟨gb, cap, rfl, _⟩ := Kd.R_form hr (by simp)
  have c0 : w1.cell? ⟨gb, 0, none⟩ = some (.int .u8 x0) := (Kd.R_cell (0 : Int) hr 0 (by omega) (by simp)).1
  have H1 := Aside0.mk h1
  have H2 := Aside0.mk h2
  have H3 := Aside0.mk h3
  clear hr h1 h2 h3
  go_wp2
  go_ret
  exact ⟨by rw [← HV.out]; rfl, H1.out, H2.out, H3.out⟩
set_option maxHeartbeats 1600000 in
set_option maxRecDepth 100000 in
theorem rd_fix_4 (n : Nat) (hn : n = 1 ∨ n = 4) (g : Nat) (s0 : List Int) (s1 s2 s3 : Int) (x0 x1 x2 x3 v : Int) (r2 r3 r4 : Int) (w0 w : World) (hI : RD w0 w g s0 s1 s2 s3) (hB : Below w0.heap.size w0 w) (h : num_Reader_Take.f s0 s1 s2 s3 n = some ([x0, x1, x2, x3], r2, r3, r4)) (hv : fixv [x0, x1, x2, x3] = some v) :
    Calls Tryz.prog 161 #[.pointer (some ⟨g, 0, none⟩), .int .i64 n] w fun e w' => e = .returned (.int .u64 v) ∧ RD w0 w' g s0 r2 r3 r4 ∧ Below w0.heap.size w0 w' ∧ KeepBut w w' g none := by
  have HI := Aside0.mk hI
  have HB := Aside0.mk hB
  have HF := Aside0.mk h
  have hn8 : ¬ ((8 : Int) < (n : Int)) := by omega
  have HV := Aside0.mk (Option.some.inj hv)
  clear hI hB h hn hv
  go_enter Tryz.func161, Tryz.ntmps161
  go_wp2_with fail
  refine (num_Reader_Take.calls g s0 s1 s2 s3 n _ r2 r3 r4 w0 _ HI.out HB.out HF.out).mono ?_
  rintro e w1 ⟨vv, rfl, hr, h1, h2, h3⟩
  obtain ⟨gb, cap, rfl, _⟩ := Kd.R_form hr (by simp)
  have c0 : w1.cell? ⟨gb, 0, none⟩ = some (.int .u8 x0) := (Kd.R_cell (0 : Int) hr 0 (by omega) (by simp)).1
  have c1 : w1.cell? ⟨gb, 1, none⟩ = some (.int .u8 x1) := (Kd.R_cell (0 : Int) hr 1 (by omega) (by simp)).1
  have c2 : w1.cell? ⟨gb, 2, none⟩ = some (.int .u8 x2) := (Kd.R_cell (0 : Int) hr 2 (by omega) (by simp)).1
  have c3 : w1.cell? ⟨gb, 3, none⟩ = some (.int .u8 x3) := (Kd.R_cell (0 : Int) hr 3 (by omega) (by simp)).1
  have H1 := Aside0.mk h1
  have H2 := Aside0.mk h2
  have H3 := Aside0.mk h3
  clear hr h1 h2 h3
  go_wp2
  go_ret
  exact ⟨by rw [← HV.out]; rfl, H1.out, H2.out, H3.out⟩
theorem num_Reader_Fix.calls (g : Nat) (s0 : List Int) (s1 s2 s3 : Int) (a1 : Int) (r1 r2 r3 r4 : Int) (w0 w : World) (hI : RD w0 w g s0 s1 s2 s3) (hB : Below w0.heap.size w0 w) (h : num_Reader_Fix.f s0 s1 s2 s3 a1 = some (r1, r2, r3, r4)) :
    Calls Tryz.prog 161 #[.pointer (some ⟨g, 0, none⟩), .int .i64 a1] w fun e w' => e = .returned (.int .u64 r1) ∧ RD w0 w' g s0 r2 r3 r4 ∧ Below w0.heap.size w0 w' ∧ KeepBut w w' g none := by
  unfold num_Reader_Fix.f at h
  by_cases ha : a1 = 1 ∨ a1 = 4
  · rw [if_pos ha] at h
    obtain ⟨n, rfl⟩ : ∃ n : Nat, a1 = (n : Int) := ⟨a1.toNat, by omega⟩
    have hn : n = 1 ∨ n = 4 := by omega
    obtain ⟨⟨l, q2, q3, q4⟩, h1, h⟩ := Option.bind_eq_some_iff.mp h
    obtain ⟨v, hv, h⟩ := Option.bind_eq_some_iff.mp h
    have h := Option.some.inj h
    simp only [Prod.mk.injEq] at h
    obtain ⟨rfl, rfl, rfl, rfl⟩ := h
    match l, h1, hv with
    | [], h1, hv => exact rd_fix_0 n hn g s0 s1 s2 s3 _ _ _ _ w0 w hI hB h1 hv
    | [x0], h1, hv => exact rd_fix_1 n hn g s0 s1 s2 s3 x0 _ _ _ _ w0 w hI hB h1 hv
    | [x0, x1, x2, x3], h1, hv => exact rd_fix_4 n hn g s0 s1 s2 s3 x0 x1 x2 x3 _ _ _ _ w0 w hI hB h1 hv
  · rw [if_neg ha] at h
    cases h

-- NOT PRINTED: function 316 (bits_Unpack)

-- NOT PRINTED: function 311 (delta_rest)

/-! ### delta_Sums: function 312 -/
def delta_Sums.l0 : Nat → List Int → Int → List Int → Int → Int → Option (List Int)
  | 0, _, _, _, _, _ => none
  | k + 1, x3, x4, x7, x8, x9 => if x9 < x8 then (if 0 ≤ x9 then (if x9 < (x7.length : Int) then (if x3.length < 17592186044416 then (delta_Sums.l0 k (x3 ++ [wrap64 (x4 + (rd x7 x9))]) (wrap64 (x4 + (rd x7 x9))) x7 x8 (wrap64 (x9 + 1))) else (none)) else (none)) else (none)) else (some x3)
def delta_Sums.f (k : Nat) (l0 : List Int) : Option (List Int) := delta_Sums.l0 k ([] : List Int) 0 l0 (l0.length : Int) 0
theorem delta_Sums.mono_l : ∀ k, (∀ y0 y1 y2 y3 y4, LeO (delta_Sums.l0 k y0 y1 y2 y3 y4) (delta_Sums.l0 (k + 1) y0 y1 y2 y3 y4))
  | 0 => fun _ _ _ _ _ r h => by simp [delta_Sums.l0] at h
  | k + 1 => by
    have ih0 := delta_Sums.mono_l k
    · intro y0 y1 y2 y3 y4
      unfold delta_Sums.l0
      repeat' first
      | (with_reducible exact ih0 _ _ _ _ _)
      | (with_reducible exact LeO.refl _)
      | (with_reducible exact LeO.none _)
      | (with_reducible refine LeO.ite ?_ ?_)
      | (with_reducible refine LeO.bind ?_ (fun _ => ?_))
      | exact ih0 _ _ _ _ _
      | exact LeO.none _
      | refine LeO.ite ?_ ?_
      | refine LeO.bind ?_ (fun _ => ?_)
theorem delta_Sums.mono : ∀ a0 k, LeO (delta_Sums.f k a0) (delta_Sums.f (k + 1) a0) := by
  intro a0 k
  have ih0 := delta_Sums.mono_l k
  unfold delta_Sums.f
  repeat' first
      | (with_reducible exact ih0 _ _ _ _ _)
      | (with_reducible exact LeO.refl _)
      | (with_reducible exact LeO.none _)
      | (with_reducible refine LeO.ite ?_ ?_)
      | (with_reducible refine LeO.bind ?_ (fun _ => ?_))
      | exact ih0 _ _ _ _ _
      | exact LeO.none _
      | refine LeO.ite ?_ ?_
      | refine LeO.bind ?_ (fun _ => ?_)
set_option maxHeartbeats 8000000 in
set_option maxRecDepth 100000 in
theorem delta_Sums.calls (k : Nat) (A0 : Option Addr) (c0 : Nat) (l0 : List Int) (r : List Int) (w : World) (hr0 : Kd.C (Kd.int .i64) w A0 l0.length l0) (hc0 : l0.length ≤ c0) (h : delta_Sums.f k l0 = some r) :
    Calls Tryz.prog 312 #[.slice A0 l0.length c0] w fun e w' => ∃ v0_ : Value, e = .returned (v0_) ∧ Kd.R (Kd.int .i64) 2 w' w.heap.size (fun _ => True) v0_ r ∧ Below w.heap.size w w' := by
  have HR0 := Aside0.mk hr0
  have HC0 := Aside0.mk hc0
  clear hr0 hc0
  have HB := Aside0.mk (Below.refl w.heap.size w)
  have H : (delta_Sums.l0 k ([] : List Int) 0 l0 (l0.length : Int) 0) = some r := h
  clear h
  have H' := Aside0.mk H
  clear H
  go_enter Tryz.func312, Tryz.ntmps312
  go_wp2
  go_loopg [3, 4, 9] k (fun kq v3 v4 v9 w' => ∃ (x3_1 : List Int) (x4_1 : Int) (x9_1 : Int), v4 = .int .i64 x4_1 ∧ v9 = .int .i64 x9_1 ∧ Aside0 (delta_Sums.l0 kq x3_1 x4_1 l0 (l0.length : Int) x9_1 = some r) ∧ Aside0 (kq ≤ k) ∧ Aside0 (Kd.R (Kd.int .i64) 2 w' w.heap.size (fun _ => True) v3 x3_1) ∧ Aside0 (Below w.heap.size w w'))
  case atStart => exact ⟨(([] : List Int)), (0), (0), (by first | rfl | (simp; done) | (simp [*]; done)), (by first | rfl | (simp; done) | (simp [*]; done)), H', ⟨Nat.le_refl _⟩, ⟨by first | exact Kd.R_nil _ _ _ _ _ | exact Kd.N_nil _ _ _ _ _ | exact Kd.V_nil _ _ _ _ _ | exact Kd.Q_nil _ _ _ _ _ | exact Kd.S_nil _ _ _ _ _⟩, ⟨by repeat (first | (with_reducible first | exact HB.out | apply below_alloc | apply pw_below_drewN | apply below_drew1) | exact HB.out)⟩⟩
  case round =>
    clear H'
    obtain ⟨x3_1, x4_1, x9_1, rfl, rfl, HA, HK1, HO_3, HB⟩ := hrel
    cases gk with
    | zero => exact absurd HA.out (by simp [delta_Sums.l0])
    | succ k1 =>
      have H := HA.out
      clear HA
      simp only [delta_Sums.l0] at H
      by_cases c2 : x9_1 < (l0.length : Int)
      · rw [if_pos c2] at H
        have c2b0 : decide (x9_1 < (l0.length : Int)) = true := decide_eq_true c2
        clear c2
        by_cases c3 : 0 ≤ x9_1
        · rw [if_pos c3] at H
          have c3b0 : decide (0 ≤ x9_1) = true := decide_eq_true c3
          clear c3
          by_cases c4 : x9_1 < (l0.length : Int)
          · rw [if_pos c4] at H
            have c4b0 : decide (x9_1 < (l0.length : Int)) = true := decide_eq_true c4
            clear c4
            by_cases c5 : x3_1.length < 17592186044416
            · rw [if_pos c5] at H
              have LMc5 := Aside0.mk c5
              clear c5
              obtain ⟨y195, hy195⟩ : ∃ y_ : List Int, y_ = (x3_1 ++ [wrap64 (x4_1 + (rd l0 x9_1))]) := ⟨_, rfl⟩
              replace H : (delta_Sums.l0 k1 y195 (wrap64 (x4_1 + (rd l0 x9_1))) l0 (l0.length : Int) (wrap64 (x9_1 + 1))) = some r := by first | (rw [hy195]; with_reducible exact H) | (have H2_ := (Option.bind_some _ _).symm.trans H; rw [hy195]; with_reducible exact H2_) | (have H2_ := (Option.bind_some _ _).symm.trans H; with_reducible exact H2_) | with_reducible exact H | (rw [hy195]; exact H) | exact H
              have Ny195 := Aside0.mk hy195
              clear hy195
              have H' := Aside0.mk H
              clear H
              have p194 : 0 ≤ (x9_1 : Int) := of_decide_eq_true (by first | (with_reducible assumption) | assumption)
              have q194 : x9_1 < (l0.length : Int) := of_decide_eq_true (by first | (with_reducible assumption) | assumption)
              obtain ⟨ad194, e194, hx194_0⟩ := Kd.at_int HR0.out x9_1 p194 q194
              cases e194
              replace hx194_0 := (HB.out.cell (World.block_lt_of_cell? w _ hx194_0)).trans hx194_0
              replace p194 := eq_true p194
              replace q194 := eq_true q194
              go_wp2_with (first | ((with_reducible refine gate_builtin (b := .append) (xs := #[.tmp 16, .tmp 18]) rfl ?_); at_builtin; refine Kd.R_append (Kd.int .i64) (w0 := w) w.heap.size rfl (.tmp 16) (.tmp 18) 368 2 (.int .i64 0) 8 rfl Tryz.underlying368 info2 rfl (by decide) (by omega) u3 x3_1 (wrap64 (x4_1 + (rd l0 x9_1))) [.int .i64 (wrap64 (x4_1 + (rd l0 x9_1)))] (fun _ => True) (fun _ => False) rfl rfl ?aP (fun _ hk => hk.elim) ?aF ?aO ?aB ?aS ?aL ?_; (case aP => exact rfl); (case aB => exact (by repeat (first | (with_reducible first | exact HB.out | apply below_alloc | apply pw_below_drewN | apply below_drew1) | exact HB.out))); (case aF => exact (fun _ _ => trivial)); (case aO => exact (by (with_reducible repeat (first | apply Kd.R_alloc | apply Kd.R_drewN | apply Kd.R_drew)); exact HO_3.out)); (case aS => exact (below_size (by repeat (first | (with_reducible first | exact HB.out | apply below_alloc | apply pw_below_drewN | apply below_drew1) | exact HB.out)))); (case aL => have := LMc5.out; omega); intro v196 w6 ho hb hg hat; rw [← Ny195.out] at ho; have n0_ := Aside0.mk (hb); have n1_ := Aside0.mk (ho); clear HB; clear HO_3; have HB := n0_; have HO197 := n1_; clear n0_ n1_; clear ho hb hg hat))
              go_roundg k1
              case measure => have := HK1.out; omega
              case rel => exact ⟨(y195), (wrap64 (x4_1 + (rd l0 x9_1))), (wrap64 (x9_1 + 1)), (by first | rfl | (simp; done) | (simp [*]; done)), (by first | rfl | (simp; done) | (simp [*]; done)), H', ⟨by have := HK1.out; omega⟩, ⟨by (with_reducible repeat (first | apply Kd.R_alloc | apply Kd.R_drewN | apply Kd.R_drew)); exact HO197.out⟩, ⟨by repeat (first | (with_reducible first | exact HB.out | apply below_alloc | apply pw_below_drewN | apply below_drew1) | exact HB.out)⟩⟩
            · rw [if_neg c5] at H
              exact absurd H (by simp)
          · rw [if_neg c4] at H
            exact absurd H (by simp)
        · rw [if_neg c3] at H
          exact absurd H (by simp)
      · rw [if_neg c2] at H
        have c2b0 : decide (x9_1 < (l0.length : Int)) = false := decide_eq_false c2
        clear c2
        obtain rfl := Option.some.inj H
        go_wp2
        go_ret
        exact ⟨_, by first | rfl | (simp [errW_none, errW_some] <;> rfl) | (simp [*, errW_none, errW_some] <;> rfl), by (with_reducible repeat (first | apply Kd.R_alloc | apply Kd.R_drewN | apply Kd.R_drew)); exact HO_3.out, by repeat (first | (with_reducible first | exact HB.out | apply below_alloc | apply pw_below_drewN | apply below_drew1) | exact HB.out)⟩

-- NOT PRINTED: function 294 (delta_Get)

-- NOT PRINTED: function 323 (slices_Clone_int64_int64)

-- NOT PRINTED: function 282 (cmp_isNaN_int64)

-- NOT PRINTED: function 334 (cmp_Less_int64)

-- NOT PRINTED: function 328 (slices_insertionSortOrdered_int64)

-- NOT PRINTED: function 337 (slices_siftDownOrdered_int64)

-- NOT PRINTED: function 329 (slices_heapSortOrdered_int64)

-- NOT PRINTED: function 330 (slices_breakPatternsOrdered_int64)

-- NOT PRINTED: function 340 (slices_order2Ordered_int64)

-- NOT PRINTED: function 339 (slices_medianOrdered_int64)

-- NOT PRINTED: function 338 (slices_medianAdjacentOrdered_int64)

-- NOT PRINTED: function 331 (slices_choosePivotOrdered_int64)

end Go.Proofs.YtibdikihgdkfnaaGreatDoor.PSto

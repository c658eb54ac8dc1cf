/- Texts, put into one. -/
import Derived.Test.YtjmhiklmlgbifaaGreatDoorPT17
import Derived.Test.YtjmhiklmlgbifaaGreatDoorPTW
set_option linter.unusedVariables false
set_option linter.unusedSimpArgs false
open Go Go.RowKit Go.Proofs.YtjmhiklmlgbifaaGreatDoorW.PrintWords Go.Proofs.YtjmhiklmlgbifaaGreatDoorW.PrintLast Go.Proofs.YtjmhiklmlgbifaaGreatDoorW.PrintMore
namespace Go.Proofs.YtjmhiklmlgbifaaGreatDoor.PMan
section
attribute [local go_sem] max2_int min2_int max_two min_two max_three min_three max_four min_four
def estreatref01_Fix.l0 : Nat → Int → Int → List Int → Int → Option (List Int)
 | 0, _, _, _, _ => none
 | k + 1, x0, x1, x5, x6 => if x6 < x1 then (if x6 < 8 then (if x5.length < 140737488355328 then (estreatref01_Fix.l0 k (IntKind.u64.wrap (Int.tdiv x0 256)) x1 (x5 ++ [(Int.tmod x0 256) % 256]) (wrap64 (x6 + 1))) else (none)) else (some x5)) else (some x5)
def estreatref01_Fix.f (k : Nat) (a0 : Int) (a1 : Int) : Option (List Int) := estreatref01_Fix.l0 k a0 a1 ([] : List Int) 0
set_option maxHeartbeats 8000000 in
set_option maxRecDepth 100000 in
theorem estreatref01_Fix.calls (k : Nat) (a0 : Int) (a1 : Int) (r : List Int) (w : World) (h : estreatref01_Fix.f k a0 a1 = some r) :
  Calls Tryz.prog 76 #[.int .u64 a0, .int .i64 a1] w fun e w' => ∃ v0_ : Value, e = .returned (v0_) ∧ Kd.R (Kd.int .u8) 5 w' w.heap.size (fun _ => True) v0_ r ∧ Below w.heap.size w w' := by
 have HB := am (Below.refl w.heap.size w)
 have H : (estreatref01_Fix.l0 k a0 a1 ([] : List Int) 0) = some r := h
 clear h
 have H' := am H
 clear H
 go_enter Tryz.func76, Tryz.ntmps76
 go_wp2
 go_loopg [0, 5, 6] k (fun kq v0 v5 v6 w' => ∃ (x0_1 : Int) (x5_1 : List Int) (x6_1 : Int), v0 = .int .u64 x0_1 ∧ v6 = .int .i64 x6_1 ∧ Aside0 (estreatref01_Fix.l0 kq x0_1 a1 x5_1 x6_1 = some r) ∧ Aside0 (kq ≤ k) ∧ Aside0 (Kd.R (Kd.int .u8) 5 w' w.heap.size (fun _ => True) v5 x5_1) ∧ Aside0 (Below w.heap.size w w'))
 case atStart => exact ⟨(a0), (([] : List Int)), (0), (by first | rfl | (simp; done) | (simp [*]; done)), (by first | rfl | (simp; done) | (simp [*]; done)), H', ⟨Nat.le_refl _⟩, ⟨by first | exact Kd.R_nil _ _ _ _ _ | exact Kd.N_nil _ _ _ _ _ | exact Kd.V_nil _ _ _ _ _ | exact Kd.Q_nil _ _ _ _ _ | exact Kd.S_nil _ _ _ _ _⟩, ⟨by repeat (first | (with_reducible first | exact HB.out | apply below_alloc | apply pw_below_drewN | apply below_drew1) | exact HB.out)⟩⟩
 case round =>
  clear H'
  try clear p2
  obtain ⟨x0_1, x5_1, x6_1, rfl, rfl, HA, HK1, HO_5, HB⟩ := hrel
  cases gk with
  | zero => exact absurd HA.out (by simp [estreatref01_Fix.l0])
  | succ k1 =>
   have H := HA.out
   clear HA
   simp only [estreatref01_Fix.l0] at H
   by_cases c3 : x6_1 < a1
   ·rw [if_pos c3] at H
    have c3b0 : decide (x6_1 < a1) = true := decide_eq_true c3
    clear c3
    by_cases c4 : x6_1 < 8
    ·rw [if_pos c4] at H
     have c4b0 : decide (x6_1 < 8) = true := decide_eq_true c4
     clear c4
     by_cases c5 : x5_1.length < 140737488355328
     ·rw [if_pos c5] at H
      have LMc5 := am c5
      clear c5
      obtain ⟨y197, hy197⟩ : ∃ y_ : List Int, y_ = (x5_1 ++ [(Int.tmod x0_1 256) % 256]) := ⟨_, rfl⟩
      replace H : (estreatref01_Fix.l0 k1 (IntKind.u64.wrap (Int.tdiv x0_1 256)) a1 y197 (wrap64 (x6_1 + 1))) = some r := by first | (rw [hy197]; with_reducible exact H) | (have H2_ := (Option.bind_some _ _).symm.trans H; rw [hy197]; with_reducible exact H2_) | (have H2_ := (Option.bind_some _ _).symm.trans H; with_reducible exact H2_) | with_reducible exact H | (rw [hy197]; exact H) | exact H
      have Ny197 := am hy197
      clear hy197
      have H' := am H
      clear H
      go_wp2_with (first | ((with_reducible refine gate_builtin (b := .append) (xs := #[.tmp 16, .tmp 20]) rfl ?_); at_builtin; refine Kd.R_append (Kd.int .u8) (w0 := w) w.heap.size rfl (.tmp 16) (.tmp 20) 30 5 (.int .u8 0) 1 rfl Tryz.underlying30 info5 rfl (by decide) (by omega) u5 x5_1 ((Int.tmod x0_1 256) % 256) [.int .u8 ((Int.tmod x0_1 256) % 256)] (fun _ => True) (fun _ => False) rfl rfl ?aP (fun _ hk => hk.elim) ?aF ?aO ?aB ?aS ?aL ?_; (case aP => exact rfl); (case aB => exact (by repeat (first | (with_reducible first | exact HB.out | apply below_alloc | apply pw_below_drewN | apply below_drew1) | exact HB.out))); (case aF => exact (fun _ _ => trivial)); (case aO => exact (by (with_reducible repeat (first | apply Kd.R_alloc | apply Kd.R_drewN | apply Kd.R_drew)); exact HO_5.out)); (case aS => exact (below_size (by repeat (first | (with_reducible first | exact HB.out | apply below_alloc | apply pw_below_drewN | apply below_drew1) | exact HB.out)))); (case aL => have := LMc5.out; omega); intro v198 w6 ho hb hg hat; rw [← Ny197.out] at ho; have n0_ := am (hb); have n1_ := am (ho); clear HB; clear HO_5; have HB := n0_; have HO199 := n1_; clear n0_ n1_; clear ho hb hg hat))
      go_roundg k1
      case measure => have := HK1.out; omega
      case rel => exact ⟨(IntKind.u64.wrap (Int.tdiv x0_1 256)), (y197), (wrap64 (x6_1 + 1)), (by first | rfl | (simp; done) | (simp [*]; done)), (by first | rfl | (simp; done) | (simp [*]; done)), H', ⟨by have := HK1.out; omega⟩, ⟨by (with_reducible repeat (first | apply Kd.R_alloc | apply Kd.R_drewN | apply Kd.R_drew)); exact HO199.out⟩, ⟨by repeat (first | (with_reducible first | exact HB.out | apply below_alloc | apply pw_below_drewN | apply below_drew1) | exact HB.out)⟩⟩
     ·rw [if_neg c5] at H
      exact absurd H (by simp)
    ·rw [if_neg c4] at H
     have c4b0 : decide (x6_1 < 8) = false := decide_eq_false c4
     clear c4
     obtain rfl := Option.some.inj H
     go_wp2
     go_ret
     exact ⟨_, by first | rfl | (simp [errW_none, errW_some] <;> rfl) | (simp [*, errW_none, errW_some] <;> rfl), by (with_reducible repeat (first | apply Kd.R_alloc | apply Kd.R_drewN | apply Kd.R_drew)); exact HO_5.out, by repeat (first | (with_reducible first | exact HB.out | apply below_alloc | apply pw_below_drewN | apply below_drew1) | exact HB.out)⟩
   ·rw [if_neg c3] at H
    have c3b0 : decide (x6_1 < a1) = false := decide_eq_false c3
    clear c3
    obtain rfl := Option.some.inj H
    go_wp2
    go_ret
    exact ⟨_, by first | rfl | (simp [errW_none, errW_some] <;> rfl) | (simp [*, errW_none, errW_some] <;> rfl), by (with_reducible repeat (first | apply Kd.R_alloc | apply Kd.R_drewN | apply Kd.R_drew)); exact HO_5.out, by repeat (first | (with_reducible first | exact HB.out | apply below_alloc | apply pw_below_drewN | apply below_drew1) | exact HB.out)⟩
def estreatref03_take.f (a0 : Int) (a1 : Int) : Option (Int) := if (Int.tmod a0 2) = a1 then (some ((Int.tdiv a0 2) % 4294967296)) else (some (Go.bits .xor .u32 ((Int.tdiv a0 2) % 4294967296) 3988292384))
set_option maxHeartbeats 8000000 in
set_option maxRecDepth 100000 in
theorem estreatref03_take.calls (a0 : Int) (a1 : Int) (r : Int) (w : World) (h : estreatref03_take.f a0 a1 = some r) :
  Calls Tryz.prog 112 #[.int .u32 a0, .int .u32 a1] w fun e w' => e = .returned (.int .u32 r) ∧ Drawn0 w w' := by
 have H : (if (Int.tmod a0 2) = a1 then (some ((Int.tdiv a0 2) % 4294967296)) else (some (Go.bits .xor .u32 ((Int.tdiv a0 2) % 4294967296) 3988292384))) = some r := h
 clear h
 by_cases c3 : (Int.tmod a0 2) = a1
 ·rw [if_pos c3] at H
  have c3b0 : ((Int.tmod a0 2) == a1) = true := beq_iff_eq.mpr c3
  have c3b1 : ((Int.tmod a0 2) != a1) = false := bne_eq_false_iff_eq.mpr c3
  clear c3
  obtain rfl := Option.some.inj H
  go_enter Tryz.func112, Tryz.ntmps112
  go_wp2
  go_ret
  exact ⟨by first | rfl | (simp; done) | (simp [*]; done), by repeat (first | exact Drawn0.refl _ | apply Drawn0.step)⟩
 ·rw [if_neg c3] at H
  have c3b0 : ((Int.tmod a0 2) == a1) = false := beq_eq_false_iff_ne.mpr c3
  have c3b1 : ((Int.tmod a0 2) != a1) = true := bne_iff_ne.mpr c3
  obtain rfl := Option.some.inj H
  go_enter Tryz.func112, Tryz.ntmps112
  go_wp2
  go_ret
  exact ⟨by first | rfl | (simp; done) | (simp [*]; done), by repeat (first | exact Drawn0.refl _ | apply Drawn0.step)⟩
mutual
def estreatref03_More.l0 : Nat → List Int → Int → Int → Option (Int)
 | 0, _, _, _ => none
 | k + 1, x1, x5, x6 => if x6 < (x1.length : Int) then (if 0 ≤ x6 then (estreatref03_More.l1 k x1 x5 x6 ((rd x1 x6) % 4294967296) 0) else (none)) else (some ((4294967295 - x5) % 4294967296))
def estreatref03_More.l1 : Nat → List Int → Int → Int → Int → Int → Option (Int)
 | 0, _, _, _, _, _ => none
 | k + 1, x1, x5, x6, x7, x8 => if x8 < 8 then ((estreatref03_take.f x5 (Int.tmod x7 2)).bind fun t201 => (estreatref03_More.l1 k x1 t201 x6 ((Int.tdiv x7 2) % 4294967296) (wrap64 (x8 + 1)))) else (estreatref03_More.l0 k x1 x5 (wrap64 (x6 + 1)))
end
def estreatref03_More.f (k : Nat) (a0 : Int) (l1 : List Int) : Option (Int) := estreatref03_More.l0 k l1 ((4294967295 - a0) % 4294967296) 0
set_option maxHeartbeats 8000000 in
set_option maxRecDepth 100000 in
theorem estreatref03_More.calls (k : Nat) (a0 : Int) (A1 : Option Addr) (c1 : Nat) (l1 : List Int) (r : Int) (w : World) (hr1 : Kd.C (Kd.int .u8) w A1 l1.length l1) (hc1 : l1.length ≤ c1) (h : estreatref03_More.f k a0 l1 = some r) :
  Calls Tryz.prog 77 #[.int .u32 a0, .slice A1 l1.length c1] w fun e w' => e = .returned (.int .u32 r) ∧ Drawn0 w w' := by
 have HR1 := am hr1
 have HC1 := am hc1
 clear hr1 hc1
 have H : (estreatref03_More.l0 k l1 ((4294967295 - a0) % 4294967296) 0) = some r := h
 clear h
 have H' := am H
 clear H
 go_enter Tryz.func77, Tryz.ntmps77
 go_wp2
 go_loopg [5, 6] k (fun kq v5 v6 w' => ∃ (x5_1 : Int) (x6_1 : Int), v5 = .int .u32 x5_1 ∧ v6 = .int .i64 x6_1 ∧ Aside0 (estreatref03_More.l0 kq l1 x5_1 x6_1 = some r) ∧ Aside0 (kq ≤ k) ∧ Drawn0 w w')
 case atStart => exact ⟨((4294967295 - a0) % 4294967296), (0), (by first | rfl | (simp; done) | (simp [*]; done)), (by first | rfl | (simp; done) | (simp [*]; done)), H', ⟨Nat.le_refl _⟩, by repeat (first | exact Drawn0.refl _ | apply Drawn0.step)⟩
 case round =>
  clear H'
  try clear c1
  try clear p2
  obtain ⟨x5_1, x6_1, rfl, rfl, HA, HK1, ⟨m1, rfl⟩⟩ := hrel
  cases gk with
  | zero => exact absurd HA.out (by simp [estreatref03_More.l0])
  | succ k1 =>
   have H := HA.out
   clear HA
   simp only [estreatref03_More.l0] at H
   by_cases c3 : x6_1 < (l1.length : Int)
   ·rw [if_pos c3] at H
    have c3b0 : decide (x6_1 < (l1.length : Int)) = true := decide_eq_true c3
    clear c3
    by_cases c4 : 0 ≤ x6_1
    ·rw [if_pos c4] at H
     have c4b0 : decide (0 ≤ x6_1) = true := decide_eq_true c4
     clear c4
     have H' := am H
     clear H
     have p200 : 0 ≤ (x6_1 : Int) := of_decide_eq_true (by first | (with_reducible assumption) | assumption)
     have q200 : x6_1 < (l1.length : Int) := of_decide_eq_true (by first | (with_reducible assumption) | assumption)
     obtain ⟨ad200, e200, hx200_0⟩ := Kd.at_int HR1.out x6_1 p200 q200
     cases e200
     replace p200 := eq_true p200
     replace q200 := eq_true q200
     go_wp2
     go_loopg [5, 7, 8] k1 (fun kq v5 v7 v8 w' => ∃ (x5_2 : Int) (x7_2 : Int) (x8_2 : Int), v5 = .int .u32 x5_2 ∧ v7 = .int .u32 x7_2 ∧ v8 = .int .i64 x8_2 ∧ Aside0 (estreatref03_More.l1 kq l1 x5_2 x6_1 x7_2 x8_2 = some r) ∧ Aside0 (kq ≤ k1) ∧ Drawn0 w w')
     case atStart => exact ⟨(x5_1), ((rd l1 x6_1) % 4294967296), (0), (by first | rfl | (simp; done) | (simp [*]; done)), (by first | rfl | (simp; done) | (simp [*]; done)), (by first | rfl | (simp; done) | (simp [*]; done)), H', ⟨Nat.le_refl _⟩, by repeat (first | exact Drawn0.refl _ | apply Drawn0.step)⟩
     case round =>
      clear H'
      try clear c1
      try clear p2
      try clear q2
      try clear hx2
      try clear c3
      try clear c3b0
      try clear c4
      try clear c4b0
      try clear hx200_0
      try clear p2
      try clear p200
      try clear q200
      obtain ⟨x5_2, x7_2, x8_2, rfl, rfl, rfl, HA, HK2, ⟨m2, rfl⟩⟩ := hrel
      cases gk with
      | zero => exact absurd HA.out (by simp [estreatref03_More.l1])
      | succ k2 =>
       have H := HA.out
       clear HA
       simp only [estreatref03_More.l1] at H
       by_cases c5 : x8_2 < 8
       ·rw [if_pos c5] at H
        have c5b0 : decide (x8_2 < 8) = true := decide_eq_true c5
        clear c5
        replace H := Option.bind_eq_some_iff.mp H
        obtain ⟨t201, A60, H⟩ := H
        replace H : (estreatref03_More.l1 k2 l1 t201 x6_1 ((Int.tdiv x7_2 2) % 4294967296) (wrap64 (x8_2 + 1))) = some r := H
        have A6 := am A60
        clear A60
        have H' := am H
        clear H
        go_wp2_with (first | ((with_reducible refine gate_callee (f := 112) rfl ?_); refine goesL_ (some 29) rfl rfl Tryz.func112 (by kernel_rfl) rfl #[.int .u32 x5_2, .int .u32 (Int.tmod x7_2 2)] rfl (by (try simp only [List.map_toArray, List.map_cons, List.map_nil]); first | done | rfl | (simp only [List.length_drop, List.length_take]; rfl)) ?_; (with_reducible refine (estreatref03_take.calls x5_2 (Int.tmod x7_2 2) t201 _ A6.out).mono ?_); rintro e w' ⟨rfl, ⟨nd, rfl⟩⟩; refine ⟨_, rfl, ?_⟩))
        go_roundg k2
        case measure => have := HK1.out; have := HK2.out; omega
        case rel => exact ⟨(t201), ((Int.tdiv x7_2 2) % 4294967296), (wrap64 (x8_2 + 1)), (by first | rfl | (simp; done) | (simp [*]; done)), (by first | rfl | (simp; done) | (simp [*]; done)), (by first | rfl | (simp; done) | (simp [*]; done)), H', ⟨by have := HK1.out; have := HK2.out; omega⟩, by repeat (first | exact Drawn0.refl _ | apply Drawn0.step)⟩
       ·rw [if_neg c5] at H
        have c5b0 : decide (x8_2 < 8) = false := decide_eq_false c5
        clear c5
        have H' := am H
        clear H
        go_wp2
        go_roundg k2
        case measure => have := HK1.out; have := HK2.out; omega
        case rel => exact ⟨(x5_2), (wrap64 (x6_1 + 1)), (by first | rfl | (simp; done) | (simp [*]; done)), (by first | rfl | (simp; done) | (simp [*]; done)), H', ⟨by have := HK1.out; have := HK2.out; omega⟩, by repeat (first | exact Drawn0.refl _ | apply Drawn0.step)⟩
    ·rw [if_neg c4] at H
     exact absurd H (by simp)
   ·rw [if_neg c3] at H
    have c3b0 : decide (x6_1 < (l1.length : Int)) = false := decide_eq_false c3
    clear c3
    obtain rfl := Option.some.inj H
    go_wp2
    go_ret
    exact ⟨by first | rfl | (simp; done) | (simp [*]; done), by repeat (first | exact Drawn0.refl _ | apply Drawn0.step)⟩
def RR (w0 W : World) (g : Nat) (f0 : List Int) (f1 f2 f3 : Int) : Prop :=
 ∃ A c, W.heap[g]? = some (.cells #[.slice A f0.length c, .int .i64 f1, .int .i64 f2, .int .i64 f3] 109 (0, 0)) ∧ w0.heap.size ≤ g ∧ Kd.C (Kd.int .u8) w0 A f0.length f0 ∧ f0.length ≤ c
theorem RR.below {w0 W W1 : World} {g : Nat} {f0 : List Int} {f1 f2 f3 : Int} (h : RR w0 W g f0 f1 f2 f3) (hb : Below W.heap.size W W1) : RR w0 W1 g f0 f1 f2 f3 := by
 obtain ⟨A, c, h1, h2, h3, h4⟩ := h
 exact ⟨A, c, (hb.block g (blk_lt h1)).trans h1, h2, h3, h4⟩
theorem RR.drewN {w0 W : World} {g : Nat} {f0 : List Int} {f1 f2 f3 : Int} (h : RR w0 W g f0 f1 f2 f3) (n : Nat) : RR w0 (W.drewN n) g f0 f1 f2 f3 := h
theorem RR.drew {w0 W : World} {g : Nat} {f0 : List Int} {f1 f2 f3 : Int} (h : RR w0 W g f0 f1 f2 f3) : RR w0 W.drew g f0 f1 f2 f3 := h
theorem RR.lt {w0 W : World} {g : Nat} {f0 : List Int} {f1 f2 f3 : Int} (h : RR w0 W g f0 f1 f2 f3) : g < W.heap.size := by
 obtain ⟨A, c, h1, _⟩ := h
 exact blk_lt h1
theorem RR.ge {w0 W : World} {g : Nat} {f0 : List Int} {f1 f2 f3 : Int} (h : RR w0 W g f0 f1 f2 f3) : w0.heap.size ≤ g := by
 obtain ⟨A, c, _, h2, _⟩ := h
 exact h2
theorem RR.set_at {w0 W : World} {g : Nat} {f0 : List Int} {f1 f2 f3 : Int} (h : RR w0 W g f0 f1 f2 f3) (x : Int) : RR w0 (W.setCell ⟨g, 1, none⟩ (.int .i64 x)) g f0 x f2 f3 := by
 obtain ⟨A, c, h1, h2, h3, h4⟩ := h
 exact ⟨A, c, by simpa using blk_set h1 1 (.int .i64 x), h2, h3, h4⟩
theorem RR.set_e {w0 W : World} {g : Nat} {f0 : List Int} {f1 f2 f3 : Int} (h : RR w0 W g f0 f1 f2 f3) (x : Int) : RR w0 (W.setCell ⟨g, 2, none⟩ (.int .i64 x)) g f0 f1 x f3 := by
 obtain ⟨A, c, h1, h2, h3, h4⟩ := h
 exact ⟨A, c, by simpa using blk_set h1 2 (.int .i64 x), h2, h3, h4⟩
theorem RR.set_on {w0 W : World} {g : Nat} {f0 : List Int} {f1 f2 f3 : Int} (h : RR w0 W g f0 f1 f2 f3) (x : Int) : RR w0 (W.setCell ⟨g, 3, none⟩ (.int .i64 x)) g f0 f1 f2 x := by
 obtain ⟨A, c, h1, h2, h3, h4⟩ := h
 exact ⟨A, c, by simpa using blk_set h1 3 (.int .i64 x), h2, h3, h4⟩
theorem KeepBut.rbelow {w W W1 : World} {g : Nat} (h : KeepBut w W g none) (hb : Below W.heap.size W W1) : KeepBut w W1 g none :=
 ⟨Nat.le_trans h.1 hb.size, fun i hi h1 h2 => (hb.block i (Nat.lt_of_lt_of_le hi h.1)).trans (h.2 i hi h1 h2)⟩
set_option maxHeartbeats 800000 in
set_option maxRecDepth 100000 in
theorem rr_fail (g : Nat) (s0 : List Int) (s1 s3 a1 : Int) (w0 w : World) (hI : RR w0 w g s0 s1 0 s3) (hn : a1 ≠ 0) :
  Calls Tryz.prog 102 #[.pointer (some ⟨g, 0, none⟩), .int .i64 a1] w fun e w' => e = .returned (.tuple #[]) ∧ RR w0 w' g s0 s1 a1 s1 ∧ KeepBut w w' g none ∧ Below w0.heap.size w w' := by
 have HI := am hI
 have hf := beq_eq_false_iff_ne.2 hn
 have hf' : (a1 != 0) = true := by simpa using hn
 obtain ⟨A, c, h1, h2, h3, h4⟩ := hI
 have hc0 := blk_cell h1 0
 have hc1 := blk_cell h1 1
 have hc2 := blk_cell h1 2
 have hc3 := blk_cell h1 3
 simp only [List.getElem?_toArray] at hc0 hc1 hc2 hc3
 have hf1 := blk_frozen h1 1
 have hf2 := blk_frozen h1 2
 have hf3 := blk_frozen h1 3
 have H2 := am h2
 clear h1 h2 h3 h4 hn
 go_enter Tryz.func102, Tryz.ntmps102
 go_wp2
 go_end0
 exact ⟨rfl, (HI.out.set_e a1).set_on s1, ((KeepBut.refl w g none).set_ 2 _).set_ 3 _, ((Below.refl _ w).setCell H2.out _).setCell H2.out _⟩
def estreatref01_Reader_Take.f (s0 : List Int) (s1 s2 s3 : Int) (a1 : Int) : Option (List Int × Int × Int × Int) :=
 if s2 = 0 then
  if a1 < 0 then some ([], s1, 1, s1)
  else if 0 ≤ s1 then
   if s1 ≤ (s0.length : Int) then
    if (s0.length : Int) - s1 < a1 then some ([], s1, 2, s1)
    else if s0.length < 140737488355328 then some ((s0.take (s1 + a1).toNat).drop s1.toNat, s1 + a1, 0, s3) else none
   else none
  else none
 else some ([], s1, s2, s3)
set_option maxHeartbeats 800000 in
set_option maxRecDepth 100000 in
theorem rr_take_err (g : Nat) (s0 : List Int) (s1 s2 s3 a1 : Int) (w0 w : World) (hI : RR w0 w g s0 s1 s2 s3) (hn : s2 ≠ 0) :
  Calls Tryz.prog 100 #[.pointer (some ⟨g, 0, none⟩), .int .i64 a1] w fun e w' => e = .returned (.slice none 0 0) ∧ w = w' := by
 have hf' : (s2 != 0) = true := by simpa using hn
 obtain ⟨A, c, h1, h2, h3, h4⟩ := hI
 have hc2 := blk_cell h1 2
 simp only [List.getElem?_toArray] at hc2
 clear h1 h2 h3 h4 hn
 go_enter Tryz.func100, Tryz.ntmps100
 go_wp2
 go_ret
 exact ⟨rfl, rfl⟩
set_option maxHeartbeats 800000 in
set_option maxRecDepth 100000 in
theorem rr_take_neg (g : Nat) (s0 : List Int) (s1 s3 a1 : Int) (w0 w : World) (hI : RR w0 w g s0 s1 0 s3) (hn : a1 < 0) :
  Calls Tryz.prog 100 #[.pointer (some ⟨g, 0, none⟩), .int .i64 a1] w fun e w' => e = .returned (.slice none 0 0) ∧ RR w0 w' g s0 s1 1 s1 ∧ KeepBut w w' g none ∧ Below w0.heap.size w w' := by
 have HI := am hI
 obtain ⟨A, c, h1, h2, h3, h4⟩ := hI
 have hc2 := blk_cell h1 2
 simp only [List.getElem?_toArray] at hc2
 clear h1 h2 h3 h4
 go_enter Tryz.func100, Tryz.ntmps100
 go_wp2_with fail
 refine (rr_fail g s0 s1 s3 1 w0 _ HI.out (by decide)).mono ?_
 rintro e w' ⟨rfl, h⟩
 have H := am h
 clear h
 go_wp2
 go_ret
 exact ⟨rfl, H.out⟩
set_option maxHeartbeats 800000 in
set_option maxRecDepth 100000 in
theorem rr_take_short (g : Nat) (s0 : List Int) (s1 s3 a1 : Int) (w0 w : World) (hI : RR w0 w g s0 s1 0 s3) (hp : ¬ (a1 < 0)) (h0 : 0 ≤ s1) (hl1 : s1 ≤ (s0.length : Int)) (hn : (s0.length : Int) - s1 < a1) :
  Calls Tryz.prog 100 #[.pointer (some ⟨g, 0, none⟩), .int .i64 a1] w fun e w' => e = .returned (.slice none 0 0) ∧ RR w0 w' g s0 s1 2 s1 ∧ KeepBut w w' g none ∧ Below w0.heap.size w w' := by
 have HI := am hI
 obtain ⟨A, c, h1, h2, h3, h4⟩ := hI
 have hm : s0.length ≤ 9223372036854775807 := Kd.C_max h3
 have hw : wrap64 ((s0.length : Int) - s1) = (s0.length : Int) - s1 := by unfold wrap64; omega
 have hc0 := blk_cell h1 0
 have hc1 := blk_cell h1 1
 have hc2 := blk_cell h1 2
 simp only [List.getElem?_toArray] at hc0 hc1 hc2
 have hd : decide ((s0.length : Int) - s1 < a1) = true := decide_eq_true hn
 have hd2 : decide (wrap64 ((s0.length : Int) - s1) < a1) = true := by rw [hw]; exact hd
 clear h1 h2 h3 h4 hw hm h0 hl1 hd
 go_enter Tryz.func100, Tryz.ntmps100
 go_wp2
 go_quiet (fail)
 go_wp2_with fail
 refine (rr_fail g s0 s1 s3 2 w0 (w.drewN _) (HI.out.drewN _) (by decide)).mono ?_
 rintro e w' ⟨rfl, h⟩
 have H := am h
 clear h
 go_wp2
 go_ret
 exact ⟨rfl, H.out.1, H.out.2.1, Below.trans (pw_below_drewN (Below.refl _ w) _) H.out.2.2⟩
set_option maxHeartbeats 1600000 in
set_option maxRecDepth 100000 in
theorem rr_take_yes (g : Nat) (s0 : List Int) (s1 s3 a1 : Int) (w0 w : World) (hI : RR w0 w g s0 s1 0 s3) (h0 : 0 ≤ s1) (h1 : 0 ≤ a1) (h2 : a1 ≤ (s0.length : Int) - s1) (hl : s0.length < 140737488355328) (hB : Below w0.heap.size w0 w) :
  Calls Tryz.prog 100 #[.pointer (some ⟨g, 0, none⟩), .int .i64 a1] w fun e w' => ∃ v, e = .returned v ∧ Kd.R (Kd.int .u8) 5 w' w.heap.size (fun _ => True) v ((s0.take (s1 + a1).toNat).drop s1.toNat) ∧ RR w0 w' g s0 (s1 + a1) 0 s3 ∧ KeepBut w w' g none ∧ Below w0.heap.size w w' := by
 have HI := am hI
 have hw : wrap64 ((s0.length : Int) - s1) = (s0.length : Int) - s1 := by unfold wrap64; omega
 have hw2 : wrap64 (s1 + a1) = s1 + a1 := by unfold wrap64; omega
 have hw3 : wrap64 s1 = s1 := by unfold wrap64; omega
 have hd1 : decide (a1 < 0) = false := decide_eq_false (by omega)
 have hd2 : decide (wrap64 ((s0.length : Int) - s1) < a1) = false := by rw [hw]; exact decide_eq_false (by omega)
 have HW2 := am hw2
 have HW3 := am hw3
 have HB := am hB
 obtain ⟨A, c, k1, k2, k3, k4⟩ := hI
 obtain ⟨i0, hi0, hz0⟩ := Option.map_eq_some_iff.1 clone_info
 simp only [Prod.mk.injEq] at hz0
 obtain ⟨A', hcut, hcr, hcl⟩ := print_mid_int (P := Tryz.prog) (k := .u8) 30 5 Tryz.underlying30 hi0 hz0.2.1 A c s0 s1 (s1 + a1) h0 (by omega) (by omega) k4
 have hc0 := blk_cell k1 0
 have hc1 := blk_cell k1 1
 have hc2 := blk_cell k1 2
 have hf1 := blk_frozen k1 1
 simp only [List.getElem?_toArray] at hc0 hc1 hc2
 have K1 := am k1
 have K2 := am k2
 have KR := am (Kd.C_of_reads (d := (0 : Int)) (h1 := fun _ => rfl) (hcr w0 (Kd.reads_of_C k3)))
 have KC := am hcl
 have HLN : Aside0 (((s0.take (s1 + a1).toNat).drop s1.toNat).length < 140737488355328) := ⟨by rw [List.length_drop, List.length_take]; omega⟩
 clear hw hl hB k1 k2 k3 k4 h0 h1 h2 hcr hcl hz0 hi0 hw2 hw3
 generalize (s0.take (s1 + a1).toNat).drop s1.toNat = out at *
 go_enter Tryz.func100, Tryz.ntmps100
 go_wp2
 go_quiet (fail)
 go_wp2_with fail
 rw [HW2.out]
 have hblk := blk_set (blk_drewN K1.out nq) 1 (.int .i64 (s1 + a1))
 have hsz : w.heap.size ≤ ((w.drewN nq).setCell ⟨g, 1, none⟩ (.int .i64 (s1 + a1))).drew.heap.size := by show w.heap.size ≤ ((w.drewN nq).setCell ⟨g, 1, none⟩ (.int .i64 (s1 + a1))).heap.size; simp
 have hkb : KeepBut w ((w.drewN nq).setCell ⟨g, 1, none⟩ (.int .i64 (s1 + a1))).drew g none := KeepBut.rbelow ((KeepBut.of_below (pw_below_drewN (Below.refl _ w) nq) g none).set_ 1 _) (below_drew (Below.refl _ _))
 have hbb : Below w0.heap.size w ((w.drewN nq).setCell ⟨g, 1, none⟩ (.int .i64 (s1 + a1))).drew := below_drew ((pw_below_drewN (Below.refl _ w) nq).setCell K2.out _)
 have hrd : RR w0 ((w.drewN nq).setCell ⟨g, 1, none⟩ (.int .i64 (s1 + a1))).drew g s0 (s1 + a1) 0 s3 := ((HI.out.drewN nq).set_at _).drew
 have hc0 := blk_cell hblk 0
 have hc1 := blk_cell hblk 1
 simp only [List.setIfInBounds_toArray, List.set_cons_succ, List.set_cons_zero, List.getElem?_toArray] at hc0 hc1
 have hc0 : ((w.drewN nq).setCell ⟨g, 1, none⟩ (.int .i64 (s1 + a1))).drew.cell? ⟨g, 0, none⟩ = some (.slice A s0.length c) := hc0
 have hc1 : ((w.drewN nq).setCell ⟨g, 1, none⟩ (.int .i64 (s1 + a1))).drew.cell? ⟨g, 1, none⟩ = some (.int .i64 (s1 + a1)) := hc1
 have HC0 := am hc0
 have HC1 := am hc1
 have HSZ := am hsz
 have HKB := am hkb
 have HBB := am hbb
 have HBX := am (HB.out.trans hbb)
 have HRD := am hrd
 clear hblk hsz hkb hbb hrd hf1 hc2 K1
 refine start_ (n := 18) (S := fun w' => w'.cell? ⟨g, 0, none⟩ = some (.slice A s0.length c) ∧ w'.cell? ⟨g, 1, none⟩ = some (.int .i64 (s1 + a1))) (ds := []) #[false, false, false, false, false, false, false, false, false, false, false, false, false, false, false, false, false, false] (by kernel_rfl) rfl rfl ⟨hc0, hc1⟩ (fun hHeld => ?_)
 generalize ((w.drewN nq).setCell ⟨g, 1, none⟩ (.int .i64 (s1 + a1))).drew = W2 at *
 refine pu 1 (some 38) ?_ ?_ ?_ ?_ ?_
 rotate_left 2
 ·intro w'
  go_simp
  with_reducible rfl
 ·simp only [Act.put, sA1, sA2, sA3, i64_w, i32_w]
  rfl
 refine pu 2 (some 39) ?_ ?_ ?_ ?_ ?_
 rotate_left 2
 ·intro w'
  go_simp
  with_reducible rfl
 ·simp only [Act.put, sA1, sA2, sA3, i64_w, i32_w]
  rfl
 refine pu 3 (some 40) ?_ ?_ ?_ ?_ ?_
 rotate_left 2
 ·intro w'
  go_simp
  with_reducible rfl
 ·simp only [Act.put, sA1, sA2, sA3, i64_w, i32_w]
  rfl
 refine pu 5 (some 42) ?_ ?_ ?_ ?_ ?_
 rotate_left 2
 ·intro w'
  go_simp
  with_reducible rfl
 ·simp only [Act.put, sA1, sA2, sA3, i64_w, i32_w]
  rfl
 refine pu 6 (some 43) ?_ ?_ ?_ ?_ ?_
 rotate_left 2
 ·intro w'
  go_simp
  with_reducible rfl
 ·simp only [Act.put, sA1, sA2, sA3, i64_w, i32_w]
  rfl
 refine pu 7 (some 44) ?_ ?_ ?_ ?_ ?_
 rotate_left 2
 ·intro w'
  go_simp
  with_reducible rfl
 ·simp only [Act.put, sA1, sA2, sA3, i64_w, i32_w]
  rfl
 refine pu 9 (some 46) ?_ ?_ ?_ ?_ ?_
 rotate_left 2
 ·intro w'
  go_simp
  with_reducible rfl
 ·simp only [Act.put, sA1, sA2, sA3, i64_w, i32_w]
  rfl
 refine pu 11 (some 48) ?_ ?_ ?_ ?_ ?_
 rotate_left 2
 ·intro w'
  go_simp
  with_reducible rfl
 ·simp only [Act.put, sA1, sA2, sA3, i64_w, i32_w]
  rfl
 refine pu 12 (some 49) ?_ ?_ ?_ ?_ ?_
 rotate_left 2
 ·intro w'
  go_simp
  with_reducible rfl
 ·simp only [Act.put, sA1, sA2, sA3, i64_w, i32_w]
  rfl
 refine pu 13 (some 50) ?_ ?_ ?_ ?_ ?_
 rotate_left 2
 ·intro w'
  go_simp
  with_reducible rfl
 ·simp only [Act.put, sA1, sA2, sA3, i64_w, i32_w]
  rfl
 refine tk 4 (some 41) ?_ ?_ hHeld ?_ ?_ ?_
 rotate_left 2
 ·rintro w' ⟨s0, s1⟩
  go_simp
  with_reducible rfl
 ·simp only [Act.put, sA1, sA2, sA3, i64_w, i32_w]
  rfl
 refine tk 8 (some 45) ?_ ?_ hHeld ?_ ?_ ?_
 rotate_left 2
 ·rintro w' ⟨s0, s1⟩
  go_simp
  with_reducible rfl
 ·simp only [Act.put, sA1, sA2, sA3, i64_w, i32_w]
  rfl
 refine pu 10 (some 47) ?_ ?_ ?_ ?_ ?_
 rotate_left 2
 ·intro w'
  go_simp
  with_reducible rfl
 ·simp only [Act.put, sA1, sA2, sA3, i64_w, i32_w]
  rfl
 rw [HW3.out]
 refine tk 14 (some 51) ?_ ?_ hHeld ?_ ?_ ?_
 rotate_left 2
 ·rintro w' ⟨s0, s1⟩
  go_simp
  with_reducible rfl
 ·simp only [Act.put, sA1, sA2, sA3, i64_w, i32_w]
  rfl
 refine pu 15 (some 52) ?_ ?_ ?_ ?_ ?_
 rotate_left 2
 ·intro w'
  go_simp
  with_reducible rfl
 ·simp only [Act.put, sA1, sA2, sA3, i64_w, i32_w]
  rfl
 refine on (i := 0) (N := some 37) rfl rfl (by kernel_rfl) (by decide) (fun K hK => ?_)
 refine Kd.R_lit_step (Kd.int .u8) _ 5 ?hg (N := 37) ?hd (xs := ([] : List Int)) (inner := []) (ok := fun _ => True) (okp := fun _ => True) ?hr ?hp (fun _ hk => hk) trivial (Below.refl _ _) (Nat.le_refl _) (by simp) ?_; (case hd => rfl); (case hg => rfl); (case hr => first | (go_simp; done) | (go_simp; rfl)); (case hp => exact (Reps.none _ _))
 intro v1 w30 ho1 hb1 hg_ hnew_
 clear hg_ hnew_
 have HO1 := am ho1
 have HBL := am hb1
 clear ho1 hb1
 have hc0 := pw_cell_below HBL.out hc0
 have hc1 := pw_cell_below HBL.out hc1
 refine hK.out _ _ ⟨hc0, hc1⟩ (fun hHeld => ?_)
 clear hK K
 refine norm_ (a' := ?_) ?_ ?_
 rotate_left
 ·show Act.put _ (some 37) _ = _
  simp only [Act.put, sA1, sA2, sA3, i64_w, i32_w]
  rfl
 refine on (i := 16) (N := some 53) rfl rfl (by kernel_rfl) (by decide) (fun K hK => ?_)
 refine Kd.R_append_rows_step (Kd.int .u8) (w0 := W2) W2.heap.size (by rfl) (.tmp 37) (.tmp 52) 30 5 (.int .u8 0) 1 rfl Tryz.underlying30 info5 rfl (by decide) (by omega) v1 ([] : List Int) out _ _ _ (fun _ => True) (fun _ => False) rfl rfl HO1.out (Kd.C_below KR.out (HBX.out.trans (HBL.out.mono HBX.out.size))) (fun _ _ h => h) (fun _ h => h.elim) (fun _ _ => trivial) HBL.out HBL.out.size (by have := HLN.out; simp; omega) ?_
 intro v2 w34 ho2 hb2 hg_ hat_
 clear hg_ hat_
 rw [List.nil_append] at ho2
 have HO2 := am ho2
 have HB2 := am hb2
 clear ho2 hb2
 have hc0 := pw_cell_below HB2.out HC0.out
 have hc1 := pw_cell_below HB2.out HC1.out
 refine hK.out _ _ ⟨hc0, hc1⟩ (fun hHeld => ?_)
 clear hK K
 refine norm_ (a' := ?_) ?_ ?_
 rotate_left
 ·show Act.put _ (some 53) _ = _
  simp only [Act.put, sA1, sA2, sA3, i64_w, i32_w]
  rfl
 refine pu 17 (some 4) ?_ ?_ ?_ ?_ ?_
 rotate_left 2
 ·intro w'
  go_simp
  with_reducible rfl
 ·simp only [Act.put, sA1, sA2, sA3, i64_w, i32_w]
  rfl
 refine done_ (by kernel_rfl) ?_
 go_wp2
 go_ret
 exact ⟨_, rfl, Kd.R_lower HO2.out HSZ.out, HRD.out.below HB2.out, KeepBut.rbelow HKB.out HB2.out, HBB.out.trans (HB2.out.mono (by have := HBB.out.size; have := HB.out.size; have := HSZ.out; omega))⟩
theorem estreatref01_Reader_Take.calls (g : Nat) (s0 : List Int) (s1 s2 s3 : Int) (a1 : Int) (r1 : List Int) (r2 r3 r4 : Int) (w0 w : World) (hI : RR w0 w g s0 s1 s2 s3) (hB : Below w0.heap.size w0 w) (h : estreatref01_Reader_Take.f s0 s1 s2 s3 a1 = some (r1, r2, r3, r4)) :
  Calls Tryz.prog 100 #[.pointer (some ⟨g, 0, none⟩), .int .i64 a1] w fun e w' => ∃ v0_ : Value, e = .returned v0_ ∧ Kd.R (Kd.int .u8) 5 w' w.heap.size (fun _ => True) v0_ r1 ∧ RR w0 w' g s0 r2 r3 r4 ∧ Below w0.heap.size w0 w' ∧ KeepBut w w' g none := by
 unfold estreatref01_Reader_Take.f at h
 by_cases q2 : s2 = 0
 ·rw [if_pos q2] at h
  subst q2
  by_cases q3 : a1 < 0
  ·rw [if_pos q3] at h
   simp only [Option.some.injEq, Prod.mk.injEq] at h
   obtain ⟨rfl, rfl, rfl, rfl⟩ := h
   refine (rr_take_neg g s0 s1 s3 a1 w0 w hI q3).mono ?_
   rintro e w' ⟨rfl, k1, k2, k3⟩
   exact ⟨_, rfl, Kd.R_nil _ _ _ _ _, k1, hB.trans k3, k2⟩
  ·rw [if_neg q3] at h
   by_cases q4 : 0 ≤ s1
   ·rw [if_pos q4] at h
    by_cases q5 : s1 ≤ (s0.length : Int)
    ·rw [if_pos q5] at h
     by_cases q6 : (s0.length : Int) - s1 < a1
     ·rw [if_pos q6] at h
      simp only [Option.some.injEq, Prod.mk.injEq] at h
      obtain ⟨rfl, rfl, rfl, rfl⟩ := h
      refine (rr_take_short g s0 s1 s3 a1 w0 w hI q3 q4 q5 q6).mono ?_
      rintro e w' ⟨rfl, k1, k2, k3⟩
      exact ⟨_, rfl, Kd.R_nil _ _ _ _ _, k1, hB.trans k3, k2⟩
     ·rw [if_neg q6] at h
      by_cases q7 : s0.length < 140737488355328
      ·rw [if_pos q7] at h
       simp only [Option.some.injEq, Prod.mk.injEq] at h
       obtain ⟨rfl, rfl, rfl, rfl⟩ := h
       refine (rr_take_yes g s0 s1 s3 a1 w0 w hI q4 (by omega) (by omega) q7 hB).mono ?_
       rintro e w' ⟨v, rfl, k0, k1, k2, k3⟩
       exact ⟨_, rfl, k0, k1, hB.trans k3, k2⟩
      ·rw [if_neg q7] at h
       cases h
    ·rw [if_neg q5] at h
     cases h
   ·rw [if_neg q4] at h
    cases h
 ·rw [if_neg q2] at h
  simp only [Option.some.injEq, Prod.mk.injEq] at h
  obtain ⟨rfl, rfl, rfl, rfl⟩ := h
  refine (rr_take_err g s0 s1 s2 s3 a1 w0 w hI q2).mono ?_
  rintro e w' ⟨rfl, rfl⟩
  exact ⟨_, rfl, Kd.R_nil _ _ _ _ _, hI, hB, KeepBut.refl _ _ _⟩
def rfixv : List Int → Option Int
 | [] => some 0
 | [a, b, c, d] => some (IntKind.u64.wrap (IntKind.u64.wrap (256 * IntKind.u64.wrap (IntKind.u64.wrap (256 * IntKind.u64.wrap (IntKind.u64.wrap (256 * IntKind.u64.wrap (IntKind.u64.wrap d)) + IntKind.u64.wrap c)) + IntKind.u64.wrap b)) + IntKind.u64.wrap a))
 | _ => none
def estreatref01_Reader_Fix.f (s0 : List Int) (s1 s2 s3 : Int) : Option (Int × Int × Int × Int) :=
 (estreatref01_Reader_Take.f s0 s1 s2 s3 4).bind fun r => (rfixv r.1).bind fun v => some (v, r.2)
set_option maxHeartbeats 1600000 in
set_option maxRecDepth 100000 in
theorem rr_fix_0 (g : Nat) (s0 : List Int) (s1 s2 s3 : Int) (v : Int) (r2 r3 r4 : Int) (w0 w : World) (hI : RR w0 w g s0 s1 s2 s3) (hB : Below w0.heap.size w0 w) (h : estreatref01_Reader_Take.f s0 s1 s2 s3 4 = some ([], r2, r3, r4)) (hv : rfixv [] = some v) :
  Calls Tryz.prog 99 #[.pointer (some ⟨g, 0, none⟩), .int .i64 4] w fun e w' => e = .returned (.int .u64 v) ∧ RR w0 w' g s0 r2 r3 r4 ∧ Below w0.heap.size w0 w' ∧ KeepBut w w' g none := by
 have HI := am hI
 have HB := am hB
 have HF := am h
 have HV := am (Option.some.inj hv)
 clear hI hB h hv
 go_enter Tryz.func99, Tryz.ntmps99
 go_wp2_with fail
 refine (estreatref01_Reader_Take.calls g s0 s1 s2 s3 4 _ r2 r3 r4 w0 _ HI.out HB.out HF.out).mono ?_
 rintro e w1 ⟨vv, rfl, hr, h1, h2, h3⟩
 obtain ⟨A, c, rfl⟩ := Kd.R_slice hr
 have H1 := am h1
 have H2 := am h2
 have H3 := am h3
 clear hr h1 h2 h3
 go_wp2
 go_rounds 1
 go_ret
 exact ⟨by rw [← HV.out]; rfl, H1.out, H2.out, H3.out⟩
set_option maxHeartbeats 1600000 in
set_option maxRecDepth 100000 in
theorem rr_fix_4 (g : Nat) (s0 : List Int) (s1 s2 s3 : Int) (x0 x1 x2 x3 v : Int) (r2 r3 r4 : Int) (w0 w : World) (hI : RR w0 w g s0 s1 s2 s3) (hB : Below w0.heap.size w0 w) (h : estreatref01_Reader_Take.f s0 s1 s2 s3 4 = some ([x0, x1, x2, x3], r2, r3, r4)) (hv : rfixv [x0, x1, x2, x3] = some v) :
  Calls Tryz.prog 99 #[.pointer (some ⟨g, 0, none⟩), .int .i64 4] w fun e w' => e = .returned (.int .u64 v) ∧ RR w0 w' g s0 r2 r3 r4 ∧ Below w0.heap.size w0 w' ∧ KeepBut w w' g none := by
 have HI := am hI
 have HB := am hB
 have HF := am h
 have HV := am (Option.some.inj hv)
 clear hI hB h hv
 go_enter Tryz.func99, Tryz.ntmps99
 go_wp2_with fail
 refine (estreatref01_Reader_Take.calls g s0 s1 s2 s3 4 _ r2 r3 r4 w0 _ HI.out HB.out HF.out).mono ?_
 rintro e w1 ⟨vv, rfl, hr, h1, h2, h3⟩
 obtain ⟨gb, cap, rfl, _⟩ := Kd.R_form hr (by simp)
 have c0 : w1.cell? ⟨gb, 0, none⟩ = some (.int .u8 x0) := (Kd.R_cell (0 : Int) hr 0 (by omega) (by simp)).1
 have c1 : w1.cell? ⟨gb, 1, none⟩ = some (.int .u8 x1) := (Kd.R_cell (0 : Int) hr 1 (by omega) (by simp)).1
 have c2 : w1.cell? ⟨gb, 2, none⟩ = some (.int .u8 x2) := (Kd.R_cell (0 : Int) hr 2 (by omega) (by simp)).1
 have c3 : w1.cell? ⟨gb, 3, none⟩ = some (.int .u8 x3) := (Kd.R_cell (0 : Int) hr 3 (by omega) (by simp)).1
 have H1 := am h1
 have H2 := am h2
 have H3 := am h3
 clear hr h1 h2 h3
 go_wp2
 go_rounds 5
 go_ret
 exact ⟨by rw [← HV.out]; rfl, H1.out, H2.out, H3.out⟩
theorem estreatref01_Reader_Fix.calls (g : Nat) (s0 : List Int) (s1 s2 s3 : Int) (r1 r2 r3 r4 : Int) (w0 w : World) (hI : RR w0 w g s0 s1 s2 s3) (hB : Below w0.heap.size w0 w) (h : estreatref01_Reader_Fix.f s0 s1 s2 s3 = some (r1, r2, r3, r4)) :
  Calls Tryz.prog 99 #[.pointer (some ⟨g, 0, none⟩), .int .i64 4] w fun e w' => e = .returned (.int .u64 r1) ∧ RR w0 w' g s0 r2 r3 r4 ∧ Below w0.heap.size w0 w' ∧ KeepBut w w' g none := by
 unfold estreatref01_Reader_Fix.f at h
 obtain ⟨⟨l, q2, q3, q4⟩, h1, h⟩ := Option.bind_eq_some_iff.mp h
 obtain ⟨v, hv, h⟩ := Option.bind_eq_some_iff.mp h
 have h := Option.some.inj h
 simp only [Prod.mk.injEq] at h
 obtain ⟨rfl, rfl, rfl, rfl⟩ := h
 match l, h1, hv with
 | [], h1, hv => exact rr_fix_0 g s0 s1 s2 s3 _ _ _ _ w0 w hI hB h1 hv
 | [x0, x1, x2, x3], h1, hv => exact rr_fix_4 g s0 s1 s2 s3 x0 x1 x2 x3 _ _ _ _ w0 w hI hB h1 hv
def estreatref04_Get.f (k : Nat) (l : List Int) : Option (List Int × Int × Int) :=
 (estreatref01_Reader_Fix.f l 0 0 0).bind fun a =>
 if a.2.2.1 = 0 ∧ a.1 > 16777216 then some ([], 0, 12) else
 (estreatref01_Reader_Fix.f l a.2.1 a.2.2.1 a.2.2.2).bind fun b =>
 (estreatref01_Reader_Take.f l b.2.1 b.2.2.1 b.2.2.2 (wrap64 a.1)).bind fun t =>
 if t.2.2.1 = 0 then
  (estreatref01_Fix.f k a.1 4).bind fun x => if x.length + t.1.length < 140737488355328 then
   (estreatref03_More.f k 0 (x ++ t.1)).bind fun s => if s = b.1 % 4294967296 then some (t.1, t.2.1, 0) else some ([], 0, 6)
  else none
 else some ([], 0, 2)
set_option maxHeartbeats 4000000 in
set_option maxRecDepth 100000 in
theorem estreatref04_Get.calls (k : Nat) (A0 : Option Addr) (c0 : Nat) (l : List Int) (r1 : List Int) (r2 r3 : Int) (w : World) (hr0 : Kd.C (Kd.int .u8) w A0 l.length l) (hc0 : l.length ≤ c0) (h : estreatref04_Get.f k l = some (r1, r2, r3)) :
  Calls Tryz.prog 56 #[.slice A0 l.length c0] w fun e w' => ∃ v0_ : Value, e = .returned (.agg #[v0_, .int .i64 r2, .int .i64 r3]) ∧ Kd.R (Kd.int .u8) 5 w' w.heap.size (fun _ => True) v0_ r1 ∧ Below w.heap.size w w' := by
 obtain ⟨⟨n, a1, a2, a3⟩, ha, h⟩ := Option.bind_eq_some_iff.mp h
 simp only at h
 have HR := am hr0
 have HC := am hc0
 have HA := am ha
 have H := am h
 clear hr0 hc0 ha h
 go_enter Tryz.func56, Tryz.ntmps56
 go_wp2_with fail
 have hbw : Below w.heap.size w (w.alloc (.cells #[.slice none 0 0, .int .i64 0, .int .i64 0] 105)) := below_alloc (Below.refl _ _) _
 have hres : (w.alloc (.cells #[.slice none 0 0, .int .i64 0, .int .i64 0] 105)).heap[w.heap.size]? = some (.cells #[.slice none 0 0, .int .i64 0, .int .i64 0] 105 (0, 0)) := heap_alloc_new w _
 have hsz : (w.alloc (.cells #[.slice none 0 0, .int .i64 0, .int .i64 0] 105)).heap.size = w.heap.size + 1 := by simp
 rw [← hsz]
 generalize w.alloc (.cells #[.slice none 0 0, .int .i64 0, .int .i64 0] 105) = W0 at *
 have hrr : RR W0 (W0.alloc (.cells #[.slice A0 l.length c0, .int .i64 0, .int .i64 0, .int .i64 0] 109)) W0.heap.size l 0 0 0 := ⟨A0, c0, heap_alloc_new W0 _, Nat.le_refl _, Kd.C_below HR.out hbw, HC.out⟩
 have hb0 : Below W0.heap.size W0 (W0.alloc (.cells #[.slice A0 l.length c0, .int .i64 0, .int .i64 0, .int .i64 0] 109)) := below_alloc (Below.refl _ _) _
 have HBW := am hbw
 have HRES := am hres
 have HSZ := am hsz
 have HRR := am hrr
 have HB0 := am hb0
 clear hbw hres hsz hrr hb0
 refine (estreatref01_Reader_Fix.calls W0.heap.size l 0 0 0 n a1 a2 a3 W0 _ HRR.out HB0.out HA.out).mono ?_
 clear HRR HB0 HA
 rintro e w2 ⟨rfl, hrr, hb, _⟩
 have HR1 := am hrr
 have HB1 := am hb
 have hx : w2.heap[w.heap.size]? = some (.cells #[.slice none 0 0, .int .i64 0, .int .i64 0] 105 (0, 0)) := (hb.block _ (by have := HSZ.out; omega)).trans HRES.out
 obtain ⟨A, c, k1, k2, k3, k4⟩ := hrr
 have hc2 := blk_cell k1 2
 simp only [List.getElem?_toArray] at hc2
 have HX := am hx
 clear k1 k2 k3 k4 hx hb
 by_cases q : a2 = 0 ∧ n > 16777216
 ·obtain ⟨rfl, q⟩ := q
  have q1 : decide ((16777216 : Int) < n) = true := decide_eq_true q
  have hx0 := blk_cell HX.out 0
  have hx1 := blk_cell HX.out 1
  have hx2 := blk_cell HX.out 2
  simp only [List.getElem?_toArray] at hx0 hx1 hx2
  have hf0 := blk_frozen HX.out 0
  have hf1 := blk_frozen HX.out 1
  have hf2 := blk_frozen HX.out 2
  clear q
  have h := H.out
  rw [if_pos ⟨rfl, by simpa using q1⟩] at h
  simp only [Option.some.injEq, Prod.mk.injEq] at h
  obtain ⟨rfl, rfl, rfl⟩ := h
  go_wp2
  refine bodyPost_ret (v := .agg #[.slice none 0 0, .int .i64 0, .int .i64 12]) (results_cell_row rfl _ _ w.heap.size 105 #[.slice none 0 0, .int .i64 0, .int .i64 12] (0, 0) _ rfl (by simpa using blk_set (blk_set (blk_set HX.out 0 (.slice none 0 0)) 1 (.int .i64 0)) 2 (.int .i64 12)) Tryz.underlying105 rfl (by kernel_rfl)) rfl ?_
  exact ⟨_, rfl, Kd.R_nil _ _ _ _ _, (((HBW.out.trans (HB1.out.mono HBW.out.size)).setCell (Nat.le_refl _) _).setCell (Nat.le_refl _) _).setCell (Nat.le_refl _) _⟩
 ·have h := H.out
  rw [if_neg q] at h
  obtain ⟨⟨sm, b1, b2, b3⟩, hb2, h⟩ := Option.bind_eq_some_iff.mp h
  obtain ⟨⟨p, t1, t2, t3⟩, ht, h⟩ := Option.bind_eq_some_iff.mp h
  simp only at ht h
  have HF2 := am hb2
  have HT := am ht
  have H := am h
  clear h hb2 ht
  have hq : (a2 == 0) = false ∨ ((a2 == 0) = true ∧ decide ((16777216 : Int) < n) = false) := by
   by_cases e : a2 = 0
   ·exact .inr ⟨by simpa using e, decide_eq_false (fun hh => q ⟨e, hh⟩)⟩
   ·exact .inl (by simpa using e)
  clear q
  rcases hq with hq | ⟨hq, hq2⟩
  all_goals
   go_wp2_with fail
   refine (estreatref01_Reader_Fix.calls W0.heap.size l a1 a2 a3 sm b1 b2 b3 W0 _ HR1.out HB1.out HF2.out).mono ?_
   rintro e w3 ⟨rfl, hrr, hb, _⟩
   have HR2 := am hrr
   have HB2 := am hb
   clear hrr hb
   go_wp2_with fail
   refine (estreatref01_Reader_Take.calls W0.heap.size l b1 b2 b3 (wrap64 n) p t1 t2 t3 W0 _ HR2.out HB2.out HT.out).mono ?_
   rintro e w4 ⟨v, rfl, hp, hrr, hb, _⟩
   have HP := am hp
   have HR3 := am hrr
   have HB3 := am hb
   have hx : w4.heap[w.heap.size]? = some (.cells #[.slice none 0 0, .int .i64 0, .int .i64 0] 105 (0, 0)) := (hb.block _ (by have := HSZ.out; omega)).trans HRES.out
   obtain ⟨A2, c2, k1, k2, k3, k4⟩ := hrr
   have hc1 := blk_cell k1 1
   have hc2 := blk_cell k1 2
   simp only [List.getElem?_toArray] at hc1 hc2
   have HX4 := am hx
   have hx0 := blk_cell HX4.out 0
   have hx1 := blk_cell HX4.out 1
   have hx2 := blk_cell HX4.out 2
   simp only [List.getElem?_toArray] at hx0 hx1 hx2
   have hf0 := blk_frozen HX4.out 0
   have hf1 := blk_frozen HX4.out 1
   have hf2 := blk_frozen HX4.out 2
   obtain ⟨Av, cv, rfl⟩ := Kd.R_slice hp
   clear k1 k2 k3 k4 hx hb hp hq
   by_cases q4 : t2 = 0
   ·subst q4
    have h := H.out
    rw [if_pos rfl] at h
    obtain ⟨x, hxx, h⟩ := Option.bind_eq_some_iff.mp h
    by_cases q5 : x.length + p.length < 140737488355328
    ·rw [if_pos q5] at h
     obtain ⟨sv, hsv, h⟩ := Option.bind_eq_some_iff.mp h
     obtain ⟨y, hy⟩ : ∃ y, y = x ++ p := ⟨_, rfl⟩
     rw [← hy] at hsv
     have HY := am hy
     have HXX := am hxx
     have HSV := am hsv
     have HQ5 := am q5
     have HE := am h
     clear hxx hsv q5 h hy hx0 hx1 hx2 hf0 hf1 hf2
     go_wp2_with fail
     refine (estreatref01_Fix.calls k n 4 x _ HXX.out).mono ?_
     rintro e w5 ⟨vx, rfl, hrx, hbx⟩
     have HX5 := am hrx
     have HB5 := am hbx
     have HP5 := am (Kd.R_below HP.out hbx)
     clear hrx hbx
     go_wp2_with ((with_reducible refine gate_builtin (b := .append) (xs := #[.tmp 35, .tmp 36]) rfl ?_); (try (refine gate_guard (by rfl) ?_; dsimp only)); at_builtin; refine Kd.R_append_rows (Kd.int .u8) (w0 := w4) w4.heap.size rfl (.tmp 35) (.tmp 36) 30 5 (.int .u8 0) 1 rfl Tryz.underlying30 info5 rfl (by decide) (by omega) vx x p _ _ _ (fun k_ => some k_ ≠ (.slice Av p.length cv : Value).ownBlock) (fun _ => False) rfl rfl (Kd.R_mono (Kd.R_new' HX5.out (Kd.R_lt HP.out)) (fun _ hk => hk.2)) (Kd.R_reads' HP5.out).2.2 (fun _ _ h => h) (fun _ h => h.elim) (fun k_ hk => Kd.fresh' (Kd.R_lt HP5.out) k_ hk) HB5.out HB5.out.size (by have := HQ5.out; omega) ?_; intro v6 w6 ho hb hg hat; rw [← HY.out] at ho; have HP6 := am (Kd.R_after (ok := (fun _ => True)) (Kd.R_elder' HP.out (Kd.R_base HX5.out) HB5.out) hg hat); have HO6 := am ho; have HB6 := am hb; obtain ⟨A6, c6, e6⟩ := Kd.R_slice ho; subst e6; clear ho hb hg hat)
     refine (estreatref03_More.calls k 0 A6 c6 y sv _ (Kd.R_reads' HO6.out).2.2 (Kd.R_reads' HO6.out).2.1 HSV.out).mono ?_
     rintro e w7 ⟨rfl, ⟨nd, rfl⟩⟩
     have HX6 := am ((HB6.out.block _ (blk_lt HX4.out)).trans HX4.out)
     have hc1 := pw_cell_below HB6.out hc1
     have hx0 := blk_cell (blk_drewN HX6.out nd) 0
     have hx1 := blk_cell (blk_drewN HX6.out nd) 1
     have hx2 := blk_cell (blk_drewN HX6.out nd) 2
     simp only [List.getElem?_toArray] at hx0 hx1 hx2
     have hf0 := blk_frozen (blk_drewN HX6.out nd) 0
     have hf1 := blk_frozen (blk_drewN HX6.out nd) 1
     have hf2 := blk_frozen (blk_drewN HX6.out nd) 2
     have HBE := am (pw_below_drewN (HBW.out.trans ((HB3.out.mono HBW.out.size).trans (HB6.out.mono (by have := HBW.out.size; have := HB3.out.size; omega)))) nd)
     have h := HE.out
     by_cases q6 : sv = sm % 4294967296
     ·have d6 : (sv != sm % 4294967296) = false := bne_eq_false_iff_eq.mpr q6
      rw [if_pos q6] at h
      simp only [Option.some.injEq, Prod.mk.injEq] at h
      obtain ⟨rfl, rfl, rfl⟩ := h
      clear q6
      go_wp2
      refine bodyPost_ret (v := .agg #[.slice Av p.length cv, .int .i64 t1, .int .i64 0]) (results_cell_row rfl _ _ w.heap.size 105 #[.slice Av p.length cv, .int .i64 t1, .int .i64 0] (0, 0) _ rfl (by simpa using blk_set (blk_set (blk_set (blk_drewN HX6.out nd) 0 (.slice Av p.length cv)) 1 (.int .i64 t1)) 2 (.int .i64 0)) Tryz.underlying105 rfl (by kernel_rfl)) rfl ?_
      have e0 := blk_drewN HX6.out nd
      have e1 := blk_set e0 0 (.slice Av p.length cv)
      have e2 := blk_set e1 1 (.int .i64 t1)
      have hlow : w.heap.size ≤ w3.heap.size := by have := HBW.out.size; have := HB2.out.size; omega
      exact ⟨_, rfl, Kd.R_set (Kd.R_set (Kd.R_set (Kd.R_mono (Kd.R_drewN (Kd.R_lower HP6.out hlow) nd) (fun _ _ => trivial)) e0 (by decide) 0 _) e1 (by decide) 1 _) e2 (by decide) 2 _, ((HBE.out.setCell (Nat.le_refl _) _).setCell (Nat.le_refl _) _).setCell (Nat.le_refl _) _⟩
     ·have d6 : (sv != sm % 4294967296) = true := bne_iff_ne.mpr q6
      rw [if_neg q6] at h
      simp only [Option.some.injEq, Prod.mk.injEq] at h
      obtain ⟨rfl, rfl, rfl⟩ := h
      clear q6
      go_wp2
      refine bodyPost_ret (v := .agg #[.slice none 0 0, .int .i64 0, .int .i64 6]) (results_cell_row rfl _ _ w.heap.size 105 #[.slice none 0 0, .int .i64 0, .int .i64 6] (0, 0) _ rfl (by simpa using blk_set (blk_set (blk_set (blk_drewN HX6.out nd) 0 (.slice none 0 0)) 1 (.int .i64 0)) 2 (.int .i64 6)) Tryz.underlying105 rfl (by kernel_rfl)) rfl ?_
      exact ⟨_, rfl, Kd.R_nil _ _ _ _ _, ((HBE.out.setCell (Nat.le_refl _) _).setCell (Nat.le_refl _) _).setCell (Nat.le_refl _) _⟩
    ·rw [if_neg q5] at h
     cases h
   ·have h := H.out
    rw [if_neg q4] at h
    simp only [Option.some.injEq, Prod.mk.injEq] at h
    obtain ⟨rfl, rfl, rfl⟩ := h
    have q5 : (t2 != 0) = true := by simpa using q4
    clear q4
    go_wp2
    refine bodyPost_ret (v := .agg #[.slice none 0 0, .int .i64 0, .int .i64 2]) (results_cell_row rfl _ _ w.heap.size 105 #[.slice none 0 0, .int .i64 0, .int .i64 2] (0, 0) _ rfl (by simpa using blk_set (blk_set (blk_set HX4.out 0 (.slice none 0 0)) 1 (.int .i64 0)) 2 (.int .i64 2)) Tryz.underlying105 rfl (by kernel_rfl)) rfl ?_
    exact ⟨_, rfl, Kd.R_nil _ _ _ _ _, (((HBW.out.trans (HB3.out.mono HBW.out.size)).setCell (Nat.le_refl _) _).setCell (Nat.le_refl _) _).setCell (Nat.le_refl _) _⟩
end
end Go.Proofs.YtjmhiklmlgbifaaGreatDoor.PMan

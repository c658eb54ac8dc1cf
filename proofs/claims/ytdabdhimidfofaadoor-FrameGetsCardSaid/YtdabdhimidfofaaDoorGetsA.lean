import Derived.Test.YtdabdhimidfofaaDoorPFramex13
import Derived.Outline
import Derived.Handy
import Derived.Laws.Rows
import Derived.Test.YtdabdhimidfofaaDoorPFramex3
set_option linter.all false
namespace Go.Proofs.YtdabdhimidfofaaDoor.PFrame
open Go.RowKit Go.Proofs.YtdabdhimidfofaaDoorW.PrintWords Go.Proofs.YtdabdhimidfofaaDoorW.PrintLast Go.Proofs.YtdabdhimidfofaaDoorW.PrintMore
attribute [local go_sem] max2_int min2_int max_two min_two max_three min_three max_four min_four   -- for this text's walks alone
set_option linter.unusedVariables false
set_option linter.unusedSimpArgs false

/-- A reference's reader at block g of W: its bytes (which came in by w0), its place, its error's number, and that one's place. -/
def RR (w0 W : World) (g : Nat) (f0 : List Int) (f1 f2 f3 : Int) : Prop :=
  ∃ A c, W.heap[g]? = some (.cells #[.slice A f0.length c, .int .i64 f1, .int .i64 f2, .int .i64 f3] 56 (0, 0)) ∧ w0.heap.size ≤ g ∧ Kd.C (Kd.int .u8) w0 A f0.length f0 ∧ f0.length ≤ c
theorem RR.below {w0 W W1 : World} {g : Nat} {f0 : List Int} {f1 f2 f3 : Int} (h : RR w0 W g f0 f1 f2 f3) (hb : Below W.heap.size W W1) : RR w0 W1 g f0 f1 f2 f3 := by
  obtain ⟨A, c, h1, h2, h3, h4⟩ := h
  exact ⟨A, c, (hb.block g (blk_lt h1)).trans h1, h2, h3, h4⟩
theorem RR.drewN {w0 W : World} {g : Nat} {f0 : List Int} {f1 f2 f3 : Int} (h : RR w0 W g f0 f1 f2 f3) (n : Nat) : RR w0 (W.drewN n) g f0 f1 f2 f3 := h
theorem RR.drew {w0 W : World} {g : Nat} {f0 : List Int} {f1 f2 f3 : Int} (h : RR w0 W g f0 f1 f2 f3) : RR w0 W.drew g f0 f1 f2 f3 := h
theorem RR.lt {w0 W : World} {g : Nat} {f0 : List Int} {f1 f2 f3 : Int} (h : RR w0 W g f0 f1 f2 f3) : g < W.heap.size := by
  obtain ⟨A, c, h1, _⟩ := h
  exact blk_lt h1
theorem RR.ge {w0 W : World} {g : Nat} {f0 : List Int} {f1 f2 f3 : Int} (h : RR w0 W g f0 f1 f2 f3) : w0.heap.size ≤ g := by
  obtain ⟨A, c, _, h2, _⟩ := h
  exact h2
theorem RR.set_at {w0 W : World} {g : Nat} {f0 : List Int} {f1 f2 f3 : Int} (h : RR w0 W g f0 f1 f2 f3) (x : Int) : RR w0 (W.setCell ⟨g, 1, none⟩ (.int .i64 x)) g f0 x f2 f3 := by
  obtain ⟨A, c, h1, h2, h3, h4⟩ := h
  exact ⟨A, c, by simpa using blk_set h1 1 (.int .i64 x), h2, h3, h4⟩
theorem RR.set_e {w0 W : World} {g : Nat} {f0 : List Int} {f1 f2 f3 : Int} (h : RR w0 W g f0 f1 f2 f3) (x : Int) : RR w0 (W.setCell ⟨g, 2, none⟩ (.int .i64 x)) g f0 f1 x f3 := by
  obtain ⟨A, c, h1, h2, h3, h4⟩ := h
  exact ⟨A, c, by simpa using blk_set h1 2 (.int .i64 x), h2, h3, h4⟩
theorem RR.set_on {w0 W : World} {g : Nat} {f0 : List Int} {f1 f2 f3 : Int} (h : RR w0 W g f0 f1 f2 f3) (x : Int) : RR w0 (W.setCell ⟨g, 3, none⟩ (.int .i64 x)) g f0 f1 f2 x := by
  obtain ⟨A, c, h1, h2, h3, h4⟩ := h
  exact ⟨A, c, by simpa using blk_set h1 3 (.int .i64 x), h2, h3, h4⟩
theorem KeepBut.rbelow {w W W1 : World} {g : Nat} (h : KeepBut w W g none) (hb : Below W.heap.size W W1) : KeepBut w W1 g none :=
  ⟨Nat.le_trans h.1 hb.size, fun i hi h1 h2 => (hb.block i (Nat.lt_of_lt_of_le hi h.1)).trans (h.2 i hi h1 h2)⟩

set_option maxHeartbeats 800000 in
set_option maxRecDepth 100000 in
theorem rr_fail (g : Nat) (s0 : List Int) (s1 s3 a1 : Int) (w0 w : World) (hI : RR w0 w g s0 s1 0 s3) (hn : a1 ≠ 0) :
    Calls Tryd.prog 35 #[.pointer (some ⟨g, 0, none⟩), .int .i64 a1] w fun e w' => e = .returned (.tuple #[]) ∧ RR w0 w' g s0 s1 a1 s1 ∧ KeepBut w w' g none ∧ Below w0.heap.size w w' := by
  have HI := Aside0.mk hI
  have hf := beq_eq_false_iff_ne.2 hn
  have hf' : (a1 != 0) = true := by simpa using hn
  obtain ⟨A, c, h1, h2, h3, h4⟩ := hI
  have hc0 := blk_cell h1 0
  have hc1 := blk_cell h1 1
  have hc2 := blk_cell h1 2
  have hc3 := blk_cell h1 3
  simp only [List.getElem?_toArray] at hc0 hc1 hc2 hc3
  have hf1 := blk_frozen h1 1
  have hf2 := blk_frozen h1 2
  have hf3 := blk_frozen h1 3
  have H2 := Aside0.mk h2
  clear h1 h2 h3 h4 hn
  go_enter Tryd.func35, Tryd.ntmps35
  go_wp2
  go_end0
  exact ⟨rfl, (HI.out.set_e a1).set_on s1, ((KeepBut.refl w g none).set_ 2 _).set_ 3 _, ((Below.refl _ w).setCell H2.out _).setCell H2.out _⟩

def estreatref01_Reader_Take.f (s0 : List Int) (s1 s2 s3 : Int) (a1 : Int) : Option (List Int × Int × Int × Int) :=
  if s2 = 0 then
    if a1 < 0 then some ([], s1, 1, s1)
    else if 0 ≤ s1 then
      if s1 ≤ (s0.length : Int) then
        if (s0.length : Int) - s1 < a1 then some ([], s1, 2, s1)
        else if s0.length < 140737488355328 then some ((s0.take (s1 + a1).toNat).drop s1.toNat, s1 + a1, 0, s3) else none
      else none
    else none
  else some ([], s1, s2, s3)
set_option maxHeartbeats 800000 in
set_option maxRecDepth 100000 in
theorem rr_take_err (g : Nat) (s0 : List Int) (s1 s2 s3 a1 : Int) (w0 w : World) (hI : RR w0 w g s0 s1 s2 s3) (hn : s2 ≠ 0) :
    Calls Tryd.prog 26 #[.pointer (some ⟨g, 0, none⟩), .int .i64 a1] w fun e w' => e = .returned (.slice none 0 0) ∧ w = w' := by
  have hf' : (s2 != 0) = true := by simpa using hn
  obtain ⟨A, c, h1, h2, h3, h4⟩ := hI
  have hc2 := blk_cell h1 2
  simp only [List.getElem?_toArray] at hc2
  clear h1 h2 h3 h4 hn
  go_enter Tryd.func26, Tryd.ntmps26
  go_wp2
  go_ret
  exact ⟨rfl, rfl⟩
set_option maxHeartbeats 800000 in
set_option maxRecDepth 100000 in
theorem rr_take_neg (g : Nat) (s0 : List Int) (s1 s3 a1 : Int) (w0 w : World) (hI : RR w0 w g s0 s1 0 s3) (hn : a1 < 0) :
    Calls Tryd.prog 26 #[.pointer (some ⟨g, 0, none⟩), .int .i64 a1] w fun e w' => e = .returned (.slice none 0 0) ∧ RR w0 w' g s0 s1 1 s1 ∧ KeepBut w w' g none ∧ Below w0.heap.size w w' := by
  have HI := Aside0.mk hI
  obtain ⟨A, c, h1, h2, h3, h4⟩ := hI
  have hc2 := blk_cell h1 2
  simp only [List.getElem?_toArray] at hc2
  clear h1 h2 h3 h4
  go_enter Tryd.func26, Tryd.ntmps26
  go_wp2_with fail
  refine (rr_fail g s0 s1 s3 1 w0 _ HI.out (by decide)).mono ?_
  rintro e w' ⟨rfl, h⟩
  have H := Aside0.mk h
  clear h
  go_wp2
  go_ret
  exact ⟨rfl, H.out⟩
set_option maxHeartbeats 800000 in
set_option maxRecDepth 100000 in
theorem rr_take_short (g : Nat) (s0 : List Int) (s1 s3 a1 : Int) (w0 w : World) (hI : RR w0 w g s0 s1 0 s3) (hp : ¬ (a1 < 0)) (h0 : 0 ≤ s1) (hl1 : s1 ≤ (s0.length : Int)) (hn : (s0.length : Int) - s1 < a1) :
    Calls Tryd.prog 26 #[.pointer (some ⟨g, 0, none⟩), .int .i64 a1] w fun e w' => e = .returned (.slice none 0 0) ∧ RR w0 w' g s0 s1 2 s1 ∧ KeepBut w w' g none ∧ Below w0.heap.size w w' := by
  have HI := Aside0.mk hI
  obtain ⟨A, c, h1, h2, h3, h4⟩ := hI
  have hm : s0.length ≤ 9223372036854775807 := Kd.C_max h3
  have hw : wrap64 ((s0.length : Int) - s1) = (s0.length : Int) - s1 := by unfold wrap64; omega
  have hc0 := blk_cell h1 0
  have hc1 := blk_cell h1 1
  have hc2 := blk_cell h1 2
  simp only [List.getElem?_toArray] at hc0 hc1 hc2
  have hd : decide ((s0.length : Int) - s1 < a1) = true := decide_eq_true hn
  have hd2 : decide (wrap64 ((s0.length : Int) - s1) < a1) = true := by rw [hw]; exact hd
  clear h1 h2 h3 h4 hw hm h0 hl1 hd
  go_enter Tryd.func26, Tryd.ntmps26
  go_wp2
  go_quiet (fail)
  go_wp2_with fail
  refine (rr_fail g s0 s1 s3 2 w0 (w.drewN _) (HI.out.drewN _) (by decide)).mono ?_
  rintro e w' ⟨rfl, h⟩
  have H := Aside0.mk h
  clear h
  go_wp2
  go_ret
  exact ⟨rfl, H.out.1, H.out.2.1, Below.trans (pw_below_drewN (Below.refl _ w) _) H.out.2.2⟩
-- THE WAY THAT CUTS
set_option maxHeartbeats 1600000 in
set_option maxRecDepth 100000 in
theorem rr_take_yes (g : Nat) (s0 : List Int) (s1 s3 a1 : Int) (w0 w : World) (hI : RR w0 w g s0 s1 0 s3) (h0 : 0 ≤ s1) (h1 : 0 ≤ a1) (h2 : a1 ≤ (s0.length : Int) - s1) (hl : s0.length < 140737488355328) (hB : Below w0.heap.size w0 w) :
    Calls Tryd.prog 26 #[.pointer (some ⟨g, 0, none⟩), .int .i64 a1] w fun e w' => ∃ v, e = .returned v ∧ Kd.R (Kd.int .u8) 5 w' w.heap.size (fun _ => True) v ((s0.take (s1 + a1).toNat).drop s1.toNat) ∧ RR w0 w' g s0 (s1 + a1) 0 s3 ∧ KeepBut w w' g none ∧ Below w0.heap.size w w' := by
  have HI := Aside0.mk hI
  have hw : wrap64 ((s0.length : Int) - s1) = (s0.length : Int) - s1 := by unfold wrap64; omega
  have hw2 : wrap64 (s1 + a1) = s1 + a1 := by unfold wrap64; omega
  have hw3 : wrap64 s1 = s1 := by unfold wrap64; omega
  have hd1 : decide (a1 < 0) = false := decide_eq_false (by omega)
  have hd2 : decide (wrap64 ((s0.length : Int) - s1) < a1) = false := by rw [hw]; exact decide_eq_false (by omega)
  have HW2 := Aside0.mk hw2
  have HW3 := Aside0.mk hw3
  have HB := Aside0.mk hB
  obtain ⟨A, c, k1, k2, k3, k4⟩ := hI
  obtain ⟨i0, hi0, hz0⟩ := Option.map_eq_some_iff.1 clone_info
  simp only [Prod.mk.injEq] at hz0
  obtain ⟨A', hcut, hcr, hcl⟩ := print_mid_int (P := Tryd.prog) (k := .u8) 22 5 Tryd.underlying22 hi0 hz0.2.1 A c s0 s1 (s1 + a1) h0 (by omega) (by omega) k4
  have hc0 := blk_cell k1 0
  have hc1 := blk_cell k1 1
  have hc2 := blk_cell k1 2
  have hf1 := blk_frozen k1 1
  simp only [List.getElem?_toArray] at hc0 hc1 hc2
  have K1 := Aside0.mk k1
  have K2 := Aside0.mk k2
  have KR := Aside0.mk (Kd.C_of_reads (d := (0 : Int)) (h1 := fun _ => rfl) (hcr w0 (Kd.reads_of_C k3)))
  have KC := Aside0.mk hcl
  have HLN : Aside0 (((s0.take (s1 + a1).toNat).drop s1.toNat).length < 140737488355328) := ⟨by rw [List.length_drop, List.length_take]; omega⟩
  clear hw hl hB k1 k2 k3 k4 h0 h1 h2 hcr hcl hz0 hi0 hw2 hw3
  generalize (s0.take (s1 + a1).toNat).drop s1.toNat = out at *
  go_enter Tryd.func26, Tryd.ntmps26
  go_wp2
  go_quiet (fail)
  go_wp2_with fail
  rw [HW2.out]
  have hblk := blk_set (blk_drewN K1.out nq) 1 (.int .i64 (s1 + a1))
  have hsz : w.heap.size ≤ ((w.drewN nq).setCell ⟨g, 1, none⟩ (.int .i64 (s1 + a1))).drew.heap.size := by show w.heap.size ≤ ((w.drewN nq).setCell ⟨g, 1, none⟩ (.int .i64 (s1 + a1))).heap.size; simp
  have hkb : KeepBut w ((w.drewN nq).setCell ⟨g, 1, none⟩ (.int .i64 (s1 + a1))).drew g none := KeepBut.rbelow ((KeepBut.of_below (pw_below_drewN (Below.refl _ w) nq) g none).set_ 1 _) (below_drew (Below.refl _ _))
  have hbb : Below w0.heap.size w ((w.drewN nq).setCell ⟨g, 1, none⟩ (.int .i64 (s1 + a1))).drew := below_drew ((pw_below_drewN (Below.refl _ w) nq).setCell K2.out _)
  have hrd : RR w0 ((w.drewN nq).setCell ⟨g, 1, none⟩ (.int .i64 (s1 + a1))).drew g s0 (s1 + a1) 0 s3 := ((HI.out.drewN nq).set_at _).drew
  have hc0 := blk_cell hblk 0
  have hc1 := blk_cell hblk 1
  simp only [List.setIfInBounds_toArray, List.set_cons_succ, List.set_cons_zero, List.getElem?_toArray] at hc0 hc1
  have hc0 : ((w.drewN nq).setCell ⟨g, 1, none⟩ (.int .i64 (s1 + a1))).drew.cell? ⟨g, 0, none⟩ = some (.slice A s0.length c) := hc0
  have hc1 : ((w.drewN nq).setCell ⟨g, 1, none⟩ (.int .i64 (s1 + a1))).drew.cell? ⟨g, 1, none⟩ = some (.int .i64 (s1 + a1)) := hc1
  have HC0 := Aside0.mk hc0
  have HC1 := Aside0.mk hc1
  have HSZ := Aside0.mk hsz
  have HKB := Aside0.mk hkb
  have HBB := Aside0.mk hbb
  have HBX := Aside0.mk (HB.out.trans hbb)
  have HRD := Aside0.mk hrd
  clear hblk hsz hkb hbb hrd hf1 hc2 K1
  refine start_ (n := 18) (S := fun w' => w'.cell? ⟨g, 0, none⟩ = some (.slice A s0.length c) ∧ w'.cell? ⟨g, 1, none⟩ = some (.int .i64 (s1 + a1))) (ds := []) #[false, false, false, false, false, false, false, false, false, false, false, false, false, false, false, false, false, false] (by kernel_rfl) rfl rfl ⟨hc0, hc1⟩ (fun hHeld => ?_)
  generalize ((w.drewN nq).setCell ⟨g, 1, none⟩ (.int .i64 (s1 + a1))).drew = W2 at *
  refine pure_ (i := 1) (N := some 38) (v := ?_) (a' := ?_) #[false, true, false, false, false, false, false, false, false, false, false, false, false, false, false, false, false, false] rfl rfl (by kernel_rfl) (fun _ _ _ h => h) (Or.inl ⟨by rfl, ?_⟩) ?_ ?_
  rotate_left
  · intro w'
    go_simp
    with_reducible rfl
  rotate_left
  · simp only [Act.put, List.setIfInBounds_toArray, List.set_cons_zero, List.set_cons_succ, i64_w, i32_w]
    rfl
  refine pure_ (i := 2) (N := some 39) (v := ?_) (a' := ?_) #[false, true, true, false, false, false, false, false, false, false, false, false, false, false, false, false, false, false] rfl rfl (by kernel_rfl) (fun _ _ _ h => h) (Or.inl ⟨by rfl, ?_⟩) ?_ ?_
  rotate_left
  · intro w'
    go_simp
    with_reducible rfl
  rotate_left
  · simp only [Act.put, List.setIfInBounds_toArray, List.set_cons_zero, List.set_cons_succ, i64_w, i32_w]
    rfl
  refine pure_ (i := 3) (N := some 40) (v := ?_) (a' := ?_) #[false, true, true, true, false, false, false, false, false, false, false, false, false, false, false, false, false, false] rfl rfl (by kernel_rfl) (fun _ _ _ h => h) (Or.inl ⟨by rfl, ?_⟩) ?_ ?_
  rotate_left
  · intro w'
    go_simp
    with_reducible rfl
  rotate_left
  · simp only [Act.put, List.setIfInBounds_toArray, List.set_cons_zero, List.set_cons_succ, i64_w, i32_w]
    rfl
  refine pure_ (i := 5) (N := some 42) (v := ?_) (a' := ?_) #[false, true, true, true, false, true, false, false, false, false, false, false, false, false, false, false, false, false] rfl rfl (by kernel_rfl) (fun _ _ _ h => h) (Or.inl ⟨by rfl, ?_⟩) ?_ ?_
  rotate_left
  · intro w'
    go_simp
    with_reducible rfl
  rotate_left
  · simp only [Act.put, List.setIfInBounds_toArray, List.set_cons_zero, List.set_cons_succ, i64_w, i32_w]
    rfl
  refine pure_ (i := 6) (N := some 43) (v := ?_) (a' := ?_) #[false, true, true, true, false, true, true, false, false, false, false, false, false, false, false, false, false, false] rfl rfl (by kernel_rfl) (fun _ _ _ h => h) (Or.inl ⟨by rfl, ?_⟩) ?_ ?_
  rotate_left
  · intro w'
    go_simp
    with_reducible rfl
  rotate_left
  · simp only [Act.put, List.setIfInBounds_toArray, List.set_cons_zero, List.set_cons_succ, i64_w, i32_w]
    rfl
  refine pure_ (i := 7) (N := some 44) (v := ?_) (a' := ?_) #[false, true, true, true, false, true, true, true, false, false, false, false, false, false, false, false, false, false] rfl rfl (by kernel_rfl) (fun _ _ _ h => h) (Or.inl ⟨by rfl, ?_⟩) ?_ ?_
  rotate_left
  · intro w'
    go_simp
    with_reducible rfl
  rotate_left
  · simp only [Act.put, List.setIfInBounds_toArray, List.set_cons_zero, List.set_cons_succ, i64_w, i32_w]
    rfl
  refine pure_ (i := 9) (N := some 46) (v := ?_) (a' := ?_) #[false, true, true, true, false, true, true, true, false, true, false, false, false, false, false, false, false, false] rfl rfl (by kernel_rfl) (fun _ _ _ h => h) (Or.inl ⟨by rfl, ?_⟩) ?_ ?_
  rotate_left
  · intro w'
    go_simp
    with_reducible rfl
  rotate_left
  · simp only [Act.put, List.setIfInBounds_toArray, List.set_cons_zero, List.set_cons_succ, i64_w, i32_w]
    rfl
  refine pure_ (i := 11) (N := some 48) (v := ?_) (a' := ?_) #[false, true, true, true, false, true, true, true, false, true, false, true, false, false, false, false, false, false] rfl rfl (by kernel_rfl) (fun _ _ _ h => h) (Or.inl ⟨by rfl, ?_⟩) ?_ ?_
  rotate_left
  · intro w'
    go_simp
    with_reducible rfl
  rotate_left
  · simp only [Act.put, List.setIfInBounds_toArray, List.set_cons_zero, List.set_cons_succ, i64_w, i32_w]
    rfl
  refine pure_ (i := 12) (N := some 49) (v := ?_) (a' := ?_) #[false, true, true, true, false, true, true, true, false, true, false, true, true, false, false, false, false, false] rfl rfl (by kernel_rfl) (fun _ _ _ h => h) (Or.inl ⟨by rfl, ?_⟩) ?_ ?_
  rotate_left
  · intro w'
    go_simp
    with_reducible rfl
  rotate_left
  · simp only [Act.put, List.setIfInBounds_toArray, List.set_cons_zero, List.set_cons_succ, i64_w, i32_w]
    rfl
  refine pure_ (i := 13) (N := some 50) (v := ?_) (a' := ?_) #[false, true, true, true, false, true, true, true, false, true, false, true, true, true, false, false, false, false] rfl rfl (by kernel_rfl) (fun _ _ _ h => h) (Or.inl ⟨by rfl, ?_⟩) ?_ ?_
  rotate_left
  · intro w'
    go_simp
    with_reducible rfl
  rotate_left
  · simp only [Act.put, List.setIfInBounds_toArray, List.set_cons_zero, List.set_cons_succ, i64_w, i32_w]
    rfl
  refine take_ (i := 4) (N := some 41) (v := ?_) (a' := ?_) #[false, true, true, true, true, true, true, true, false, true, false, true, true, true, false, false, false, false] rfl rfl (by kernel_rfl) (fun _ _ _ h => h) (Or.inl ⟨by rfl, ?_⟩) hHeld ?_ ?_
  rotate_left
  · rintro w' ⟨s0, s1⟩
    go_simp
    with_reducible rfl
  rotate_left
  · simp only [Act.put, List.setIfInBounds_toArray, List.set_cons_zero, List.set_cons_succ, i64_w, i32_w]
    rfl
  refine take_ (i := 8) (N := some 45) (v := ?_) (a' := ?_) #[false, true, true, true, true, true, true, true, true, true, false, true, true, true, false, false, false, false] rfl rfl (by kernel_rfl) (fun _ _ _ h => h) (Or.inl ⟨by rfl, ?_⟩) hHeld ?_ ?_
  rotate_left
  · rintro w' ⟨s0, s1⟩
    go_simp
    with_reducible rfl
  rotate_left
  · simp only [Act.put, List.setIfInBounds_toArray, List.set_cons_zero, List.set_cons_succ, i64_w, i32_w]
    rfl
  refine pure_ (i := 10) (N := some 47) (v := ?_) (a' := ?_) #[false, true, true, true, true, true, true, true, true, true, true, true, true, true, false, false, false, false] rfl rfl (by kernel_rfl) (fun _ _ _ h => h) (Or.inl ⟨by rfl, ?_⟩) ?_ ?_
  rotate_left
  · intro w'
    go_simp
    with_reducible rfl
  rotate_left
  · simp only [Act.put, List.setIfInBounds_toArray, List.set_cons_zero, List.set_cons_succ, i64_w, i32_w]
    rfl
  rw [HW3.out]
  refine take_ (i := 14) (N := some 51) (v := ?_) (a' := ?_) #[false, true, true, true, true, true, true, true, true, true, true, true, true, true, true, false, false, false] rfl rfl (by kernel_rfl) (fun _ _ _ h => h) (Or.inl ⟨by rfl, ?_⟩) hHeld ?_ ?_
  rotate_left
  · rintro w' ⟨s0, s1⟩
    go_simp
    with_reducible rfl
  rotate_left
  · simp only [Act.put, List.setIfInBounds_toArray, List.set_cons_zero, List.set_cons_succ, i64_w, i32_w]
    rfl
  refine pure_ (i := 15) (N := some 52) (v := ?_) (a' := ?_) #[false, true, true, true, true, true, true, true, true, true, true, true, true, true, true, true, false, false] rfl rfl (by kernel_rfl) (fun _ _ _ h => h) (Or.inl ⟨by rfl, ?_⟩) ?_ ?_
  rotate_left
  · intro w'
    go_simp
    with_reducible rfl
  rotate_left
  · simp only [Act.put, List.setIfInBounds_toArray, List.set_cons_zero, List.set_cons_succ, i64_w, i32_w]
    rfl
  refine one_ (i := 0) (N := some 37) #[true, true, true, true, true, true, true, true, true, true, true, true, true, true, true, true, false, false] rfl rfl (by kernel_rfl) (by decide) (fun K hK => ?_)
  refine Kd.R_lit_step (Kd.int .u8) _ 5 ?hg (N := 37) ?hd (xs := ([] : List Int)) (inner := []) (ok := fun _ => True) (okp := fun _ => True) ?hr ?hp (fun _ hk => hk) trivial (Below.refl _ _) (Nat.le_refl _) (by simp) ?_; (case hd => rfl); (case hg => rfl); (case hr => first | (go_simp; done) | (go_simp; rfl)); (case hp => exact (Reps.none _ _))
  intro v1 w30 ho1 hb1 hg_ hnew_
  clear hg_ hnew_
  have HO1 := Aside0.mk ho1
  have HBL := Aside0.mk hb1
  clear ho1 hb1
  have hc0 := pw_cell_below HBL.out hc0
  have hc1 := pw_cell_below HBL.out hc1
  refine hK.out _ _ ⟨hc0, hc1⟩ (fun hHeld => ?_)
  clear hK K
  refine norm_ (a' := ?_) ?_ ?_
  rotate_left
  · show Act.put _ (some 37) _ = _
    simp only [Act.put, List.setIfInBounds_toArray, List.set_cons_zero, List.set_cons_succ, i64_w, i32_w]
    rfl
  refine one_ (i := 16) (N := some 53) #[true, true, true, true, true, true, true, true, true, true, true, true, true, true, true, true, true, false] rfl rfl (by kernel_rfl) (by decide) (fun K hK => ?_)
  refine Kd.R_append_rows_step (Kd.int .u8) (w0 := W2) W2.heap.size (by rfl) (.tmp 37) (.tmp 52) 22 5 (.int .u8 0) 1 rfl Tryd.underlying22 info5 rfl (by decide) (by omega) v1 ([] : List Int) out _ _ _ (fun _ => True) (fun _ => False) rfl rfl HO1.out (Kd.C_below KR.out (HBX.out.trans (HBL.out.mono HBX.out.size))) (fun _ _ h => h) (fun _ h => h.elim) (fun _ _ => trivial) HBL.out HBL.out.size (by have := HLN.out; simp; omega) ?_
  intro v2 w34 ho2 hb2 hg_ hat_
  clear hg_ hat_
  rw [List.nil_append] at ho2
  have HO2 := Aside0.mk ho2
  have HB2 := Aside0.mk hb2
  clear ho2 hb2
  have hc0 := pw_cell_below HB2.out HC0.out
  have hc1 := pw_cell_below HB2.out HC1.out
  refine hK.out _ _ ⟨hc0, hc1⟩ (fun hHeld => ?_)
  clear hK K
  refine norm_ (a' := ?_) ?_ ?_
  rotate_left
  · show Act.put _ (some 53) _ = _
    simp only [Act.put, List.setIfInBounds_toArray, List.set_cons_zero, List.set_cons_succ, i64_w, i32_w]
    rfl
  refine pure_ (i := 17) (N := some 4) (v := ?_) (a' := ?_) #[true, true, true, true, true, true, true, true, true, true, true, true, true, true, true, true, true, true] rfl rfl (by kernel_rfl) (fun _ _ _ h => h) (Or.inl ⟨by rfl, ?_⟩) ?_ ?_
  rotate_left
  · intro w'
    go_simp
    with_reducible rfl
  rotate_left
  · simp only [Act.put, List.setIfInBounds_toArray, List.set_cons_zero, List.set_cons_succ, i64_w, i32_w]
    rfl
  refine done_ (by kernel_rfl) ?_
  go_wp2
  go_ret
  exact ⟨_, rfl, Kd.R_lower HO2.out HSZ.out, HRD.out.below HB2.out, KeepBut.rbelow HKB.out HB2.out, HBB.out.trans (HB2.out.mono (by have := HBB.out.size; have := HB.out.size; have := HSZ.out; omega))⟩
theorem estreatref01_Reader_Take.calls (g : Nat) (s0 : List Int) (s1 s2 s3 : Int) (a1 : Int) (r1 : List Int) (r2 r3 r4 : Int) (w0 w : World) (hI : RR w0 w g s0 s1 s2 s3) (hB : Below w0.heap.size w0 w) (h : estreatref01_Reader_Take.f s0 s1 s2 s3 a1 = some (r1, r2, r3, r4)) :
    Calls Tryd.prog 26 #[.pointer (some ⟨g, 0, none⟩), .int .i64 a1] w fun e w' => ∃ v0_ : Value, e = .returned v0_ ∧ Kd.R (Kd.int .u8) 5 w' w.heap.size (fun _ => True) v0_ r1 ∧ RR w0 w' g s0 r2 r3 r4 ∧ Below w0.heap.size w0 w' ∧ KeepBut w w' g none := by
  unfold estreatref01_Reader_Take.f at h
  by_cases q2 : s2 = 0
  · rw [if_pos q2] at h
    subst q2
    by_cases q3 : a1 < 0
    · rw [if_pos q3] at h
      simp only [Option.some.injEq, Prod.mk.injEq] at h
      obtain ⟨rfl, rfl, rfl, rfl⟩ := h
      refine (rr_take_neg g s0 s1 s3 a1 w0 w hI q3).mono ?_
      rintro e w' ⟨rfl, k1, k2, k3⟩
      exact ⟨_, rfl, Kd.R_nil _ _ _ _ _, k1, hB.trans k3, k2⟩
    · rw [if_neg q3] at h
      by_cases q4 : 0 ≤ s1
      · rw [if_pos q4] at h
        by_cases q5 : s1 ≤ (s0.length : Int)
        · rw [if_pos q5] at h
          by_cases q6 : (s0.length : Int) - s1 < a1
          · rw [if_pos q6] at h
            simp only [Option.some.injEq, Prod.mk.injEq] at h
            obtain ⟨rfl, rfl, rfl, rfl⟩ := h
            refine (rr_take_short g s0 s1 s3 a1 w0 w hI q3 q4 q5 q6).mono ?_
            rintro e w' ⟨rfl, k1, k2, k3⟩
            exact ⟨_, rfl, Kd.R_nil _ _ _ _ _, k1, hB.trans k3, k2⟩
          · rw [if_neg q6] at h
            by_cases q7 : s0.length < 140737488355328
            · rw [if_pos q7] at h
              simp only [Option.some.injEq, Prod.mk.injEq] at h
              obtain ⟨rfl, rfl, rfl, rfl⟩ := h
              refine (rr_take_yes g s0 s1 s3 a1 w0 w hI q4 (by omega) (by omega) q7 hB).mono ?_
              rintro e w' ⟨v, rfl, k0, k1, k2, k3⟩
              exact ⟨_, rfl, k0, k1, hB.trans k3, k2⟩
            · rw [if_neg q7] at h
              cases h
        · rw [if_neg q5] at h
          cases h
      · rw [if_neg q4] at h
        cases h
  · rw [if_neg q2] at h
    simp only [Option.some.injEq, Prod.mk.injEq] at h
    obtain ⟨rfl, rfl, rfl, rfl⟩ := h
    refine (rr_take_err g s0 s1 s2 s3 a1 w0 w hI q2).mono ?_
    rintro e w' ⟨rfl, rfl⟩
    exact ⟨_, rfl, Kd.R_nil _ _ _ _ _, hI, hB, KeepBut.refl _ _ _⟩

/-- What the reference reckons of the bytes it took. -/
def rfixv : List Int → Option Int
  | [] => some 0
  | [a, b, c, d] => some (IntKind.u64.wrap (IntKind.u64.wrap (256 * IntKind.u64.wrap (IntKind.u64.wrap (256 * IntKind.u64.wrap (IntKind.u64.wrap (256 * IntKind.u64.wrap (IntKind.u64.wrap d)) + IntKind.u64.wrap c)) + IntKind.u64.wrap b)) + IntKind.u64.wrap a))
  | _ => none
/-- r.Fix(4). -/
def estreatref01_Reader_Fix.f (s0 : List Int) (s1 s2 s3 : Int) : Option (Int × Int × Int × Int) :=
  (estreatref01_Reader_Take.f s0 s1 s2 s3 4).bind fun r => (rfixv r.1).bind fun v => some (v, r.2)
set_option maxHeartbeats 1600000 in
set_option maxRecDepth 100000 in
theorem rr_fix_0 (g : Nat) (s0 : List Int) (s1 s2 s3 : Int) (v : Int) (r2 r3 r4 : Int) (w0 w : World) (hI : RR w0 w g s0 s1 s2 s3) (hB : Below w0.heap.size w0 w) (h : estreatref01_Reader_Take.f s0 s1 s2 s3 4 = some ([], r2, r3, r4)) (hv : rfixv [] = some v) :
    Calls Tryd.prog 25 #[.pointer (some ⟨g, 0, none⟩), .int .i64 4] w fun e w' => e = .returned (.int .u64 v) ∧ RR w0 w' g s0 r2 r3 r4 ∧ Below w0.heap.size w0 w' ∧ KeepBut w w' g none := by
  have HI := Aside0.mk hI
  have HB := Aside0.mk hB
  have HF := Aside0.mk h
  have HV := Aside0.mk (Option.some.inj hv)
  clear hI hB h hv
  go_enter Tryd.func25, Tryd.ntmps25
  go_wp2_with fail
  refine (estreatref01_Reader_Take.calls g s0 s1 s2 s3 4 _ r2 r3 r4 w0 _ HI.out HB.out HF.out).mono ?_
  rintro e w1 ⟨vv, rfl, hr, h1, h2, h3⟩
  obtain ⟨A, c, rfl⟩ := Kd.R_slice hr
  have H1 := Aside0.mk h1
  have H2 := Aside0.mk h2
  have H3 := Aside0.mk h3
  clear hr h1 h2 h3
  go_wp2
  go_rounds 1
  go_ret
  exact ⟨by rw [← HV.out]; rfl, H1.out, H2.out, H3.out⟩
set_option maxHeartbeats 1600000 in
set_option maxRecDepth 100000 in
theorem rr_fix_4 (g : Nat) (s0 : List Int) (s1 s2 s3 : Int) (x0 x1 x2 x3 v : Int) (r2 r3 r4 : Int) (w0 w : World) (hI : RR w0 w g s0 s1 s2 s3) (hB : Below w0.heap.size w0 w) (h : estreatref01_Reader_Take.f s0 s1 s2 s3 4 = some ([x0, x1, x2, x3], r2, r3, r4)) (hv : rfixv [x0, x1, x2, x3] = some v) :
    Calls Tryd.prog 25 #[.pointer (some ⟨g, 0, none⟩), .int .i64 4] w fun e w' => e = .returned (.int .u64 v) ∧ RR w0 w' g s0 r2 r3 r4 ∧ Below w0.heap.size w0 w' ∧ KeepBut w w' g none := by
  have HI := Aside0.mk hI
  have HB := Aside0.mk hB
  have HF := Aside0.mk h
  have HV := Aside0.mk (Option.some.inj hv)
  clear hI hB h hv
  go_enter Tryd.func25, Tryd.ntmps25
  go_wp2_with fail
  refine (estreatref01_Reader_Take.calls g s0 s1 s2 s3 4 _ r2 r3 r4 w0 _ HI.out HB.out HF.out).mono ?_
  rintro e w1 ⟨vv, rfl, hr, h1, h2, h3⟩
  obtain ⟨gb, cap, rfl, _⟩ := Kd.R_form hr (by simp)
  have c0 : w1.cell? ⟨gb, 0, none⟩ = some (.int .u8 x0) := (Kd.R_cell (0 : Int) hr 0 (by omega) (by simp)).1
  have c1 : w1.cell? ⟨gb, 1, none⟩ = some (.int .u8 x1) := (Kd.R_cell (0 : Int) hr 1 (by omega) (by simp)).1
  have c2 : w1.cell? ⟨gb, 2, none⟩ = some (.int .u8 x2) := (Kd.R_cell (0 : Int) hr 2 (by omega) (by simp)).1
  have c3 : w1.cell? ⟨gb, 3, none⟩ = some (.int .u8 x3) := (Kd.R_cell (0 : Int) hr 3 (by omega) (by simp)).1
  have H1 := Aside0.mk h1
  have H2 := Aside0.mk h2
  have H3 := Aside0.mk h3
  clear hr h1 h2 h3
  go_wp2
  go_rounds 5
  go_ret
  exact ⟨by rw [← HV.out]; rfl, H1.out, H2.out, H3.out⟩
theorem estreatref01_Reader_Fix.calls (g : Nat) (s0 : List Int) (s1 s2 s3 : Int) (r1 r2 r3 r4 : Int) (w0 w : World) (hI : RR w0 w g s0 s1 s2 s3) (hB : Below w0.heap.size w0 w) (h : estreatref01_Reader_Fix.f s0 s1 s2 s3 = some (r1, r2, r3, r4)) :
    Calls Tryd.prog 25 #[.pointer (some ⟨g, 0, none⟩), .int .i64 4] w fun e w' => e = .returned (.int .u64 r1) ∧ RR w0 w' g s0 r2 r3 r4 ∧ Below w0.heap.size w0 w' ∧ KeepBut w w' g none := by
  unfold estreatref01_Reader_Fix.f at h
  obtain ⟨⟨l, q2, q3, q4⟩, h1, h⟩ := Option.bind_eq_some_iff.mp h
  obtain ⟨v, hv, h⟩ := Option.bind_eq_some_iff.mp h
  have h := Option.some.inj h
  simp only [Prod.mk.injEq] at h
  obtain ⟨rfl, rfl, rfl, rfl⟩ := h
  match l, h1, hv with
  | [], h1, hv => exact rr_fix_0 g s0 s1 s2 s3 _ _ _ _ w0 w hI hB h1 hv
  | [x0, x1, x2, x3], h1, hv => exact rr_fix_4 g s0 s1 s2 s3 x0 x1 x2 x3 _ _ _ _ w0 w hI hB h1 hv

end Go.Proofs.YtdabdhimidfofaaDoor.PFrame

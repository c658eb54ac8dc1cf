-- Printed for this claim by a program of this session's own (it runs the kit's print another way): Lean checks it.
import Derived.Test.YtdabdhimidfofaaDoorPFramex0
import Derived.Test.YtdabdhimidfofaaDoorPFramex3
namespace Go.Proofs.YtdabdhimidfofaaDoor.PFrame
open Go.RowKit Go.Proofs.YtdabdhimidfofaaDoorW.PrintWords Go.Proofs.YtdabdhimidfofaaDoorW.PrintLast Go.Proofs.YtdabdhimidfofaaDoorW.PrintMore
attribute [local go_sem] max2_int min2_int max_two min_two max_three min_three max_four min_four   -- for this text's walks alone
set_option linter.unusedVariables false
set_option linter.unusedSimpArgs false

/-! ### num_Reader_Fail: function 38 -/
def num_Reader_Fail.f (s0 : List Int) (s1 s2 s3 : Int) (a1 : Int) : Option (Int × Int × Int) := some (if s2 = 0 then (if a1 = 0 then (s1, s2, s3) else (s1, a1, s1)) else (s1, s2, s3))
set_option maxHeartbeats 800000 in
set_option maxRecDepth 100000 in
theorem rd_fail_no (g : Nat) (s0 : List Int) (s1 s2 s3 a1 : Int) (w0 w : World) (hI : RD w0 w g s0 s1 s2 s3) (hn : s2 ≠ 0 ∨ a1 = 0) :
    Calls Tryd.prog 38 #[.pointer (some ⟨g, 0, none⟩), .int .i64 a1] w fun e w' => e = .returned (.tuple #[]) ∧ w = w' := by
  have HI := Aside0.mk hI
  clear hI
  by_cases h : s2 = 0
  · have h1 : a1 = 0 := by omega
    subst h h1
    go_enter Tryd.func38, Tryd.ntmps38
    go_wp2_with fail
    refine (rd_ok g s0 _ _ _ w0 _ HI.out).mono ?_
    rintro e w' ⟨rfl, rfl⟩
    go_wp2
    go_end0
    exact ⟨rfl, rfl⟩
  · have hf := beq_eq_false_iff_ne.2 h
    clear hn
    go_enter Tryd.func38, Tryd.ntmps38
    go_wp2_with fail
    refine (rd_ok g s0 _ _ _ w0 _ HI.out).mono ?_
    rintro e w' ⟨rfl, rfl⟩
    go_wp2
    go_end0
    exact ⟨rfl, rfl⟩
theorem rd_fail_yes (g : Nat) (s0 : List Int) (s1 s3 a1 : Int) (w0 w : World) (hI : RD w0 w g s0 s1 0 s3) (hn : a1 ≠ 0) :
    Calls Tryd.prog 38 #[.pointer (some ⟨g, 0, none⟩), .int .i64 a1] w fun e w' => e = .returned (.tuple #[]) ∧ RD w0 w' g s0 s1 a1 s1 ∧ KeepBut w w' g none ∧ Below w0.heap.size w w' := by
  have HI := Aside0.mk hI
  have hf := beq_eq_false_iff_ne.2 hn
  have hf' : (a1 != 0) = true := by simpa using hn
  obtain ⟨A, c, ev, h1, h2, h3, h4, h5⟩ := hI
  have hc1 := blk_cell h1 1
  have hc2 := blk_cell h1 2
  simp only [List.getElem?_toArray] at hc1 hc2
  have hlt := blk_lt h1
  have hx1 := fun (o : Obj) => (World.cell?_alloc_lt w o ⟨g, 2, none⟩ hlt).trans hc2
  have hx2 := fun (o : Obj) => (World.frozen?_alloc_old w o ⟨g, 2, none⟩ (Nat.ne_of_lt hlt)).trans (blk_frozen h1 2)
  have H1 := Aside0.mk h1
  have H2 := Aside0.mk h2
  have H3 := Aside0.mk h3
  have H4 := Aside0.mk h4
  clear h5 h3 h1 h2 h4 hlt hc2
  go_enter Tryd.func38, Tryd.ntmps38
  go_wp2_with fail
  refine (rd_ok g s0 _ _ _ w0 _ HI.out).mono ?_
  rintro e w' ⟨rfl, rfl⟩
  go_wp2
  go_end0
  refine ⟨rfl, ?_, ?_, ?_⟩
  · refine ⟨A, c, _, by simpa using blk_set ((heap_alloc_old w _ (blk_lt H1.out)).trans H1.out) 2 _, H2.out, H3.out, H4.out, .inr ⟨hn, w.heap.size, ?_, rfl, ?_⟩⟩
    · have := blk_lt H1.out
      have := H2.out
      omega
    · rw [Below.heap_setCell _ _ _ _ (by have := blk_lt H1.out; show w.heap.size ≠ g; omega)]
      exact heap_alloc_new w _
  · exact (KeepBut.below_ (KeepBut.refl w g none) (below_alloc (Below.refl _ _) _)).set_ 2 _
  · exact ((Below.refl _ w).alloc (Nat.le_of_lt (Nat.lt_of_le_of_lt H2.out (blk_lt H1.out))) _).setCell H2.out _
theorem num_Reader_Fail.calls (g : Nat) (s0 : List Int) (s1 s2 s3 : Int) (a1 : Int) (r1 r2 r3 : Int) (w0 w : World) (hI : RD w0 w g s0 s1 s2 s3) (hB : Below w0.heap.size w0 w) (h : num_Reader_Fail.f s0 s1 s2 s3 a1 = some (r1, r2, r3)) :
    Calls Tryd.prog 38 #[.pointer (some ⟨g, 0, none⟩), .int .i64 a1] w fun e w' => e = .returned (.tuple #[]) ∧ RD w0 w' g s0 r1 r2 r3 ∧ Below w0.heap.size w0 w' ∧ KeepBut w w' g none := by
  unfold num_Reader_Fail.f at h
  have h := Option.some.inj h
  by_cases h2 : s2 = 0
  · by_cases ha : a1 = 0
    · rw [if_pos h2, if_pos ha] at h
      injection h with e1 e2
      injection e2 with e2 e3
      subst e1 e2 e3
      refine (rd_fail_no g s0 s1 s2 s3 a1 w0 w hI (.inr ha)).mono ?_
      rintro e w' ⟨rfl, rfl⟩
      exact ⟨rfl, hI, hB, KeepBut.refl _ _ _⟩
    · rw [if_pos h2, if_neg ha] at h
      injection h with e1 e2
      injection e2 with e2 e3
      subst e1 e2 e3 h2
      refine (rd_fail_yes g s0 s1 s3 a1 w0 w hI ha).mono ?_
      rintro e w' ⟨rfl, h1, h2, h3⟩
      exact ⟨rfl, h1, hB.trans h3, h2⟩
  · rw [if_neg h2] at h
    injection h with e1 e2
    injection e2 with e2 e3
    subst e1 e2 e3
    refine (rd_fail_no g s0 s1 s2 s3 a1 w0 w hI (.inl h2)).mono ?_
    rintro e w' ⟨rfl, rfl⟩
    exact ⟨rfl, hI, hB, KeepBut.refl _ _ _⟩

/-! ### num_Reader_Left: function 41 -/
def num_Reader_Left.f (s0 : List Int) (s1 s2 s3 : Int) : Option (Int × Int × Int × Int) := some (wrap64 ((s0.length : Int) - s1), s1, s2, s3)
set_option maxHeartbeats 800000 in
set_option maxRecDepth 100000 in
/-- r.Left(): nothing turns but what is drawn. -/
theorem rd_left (g : Nat) (s0 : List Int) (s1 s2 s3 : Int) (w0 w : World) (hI : RD w0 w g s0 s1 s2 s3) :
    Calls Tryd.prog 41 #[.pointer (some ⟨g, 0, none⟩)] w fun e w' => e = .returned (.int .i64 (wrap64 ((s0.length : Int) - s1))) ∧ Drawn0 w w' := by
  obtain ⟨A, c, ev, h1, h2, h3, h4, h5⟩ := hI
  have hc0 := blk_cell h1 0
  have hc1 := blk_cell h1 1
  simp only [List.getElem?_toArray] at hc0 hc1
  have HM := Aside0.mk h5
  have H3 := Aside0.mk h3
  clear h5 h3
  go_enter Tryd.func41, Tryd.ntmps41
  go_wp2
  go_quiet (fail)
  go_wp2
  go_ret
  exact ⟨rfl, by repeat (first | exact Drawn0.refl _ | apply Drawn0.step)⟩
theorem num_Reader_Left.calls (g : Nat) (s0 : List Int) (s1 s2 s3 : Int) (r1 r2 r3 r4 : Int) (w0 w : World) (hI : RD w0 w g s0 s1 s2 s3) (hB : Below w0.heap.size w0 w) (h : num_Reader_Left.f s0 s1 s2 s3 = some (r1, r2, r3, r4)) :
    Calls Tryd.prog 41 #[.pointer (some ⟨g, 0, none⟩)] w fun e w' => e = .returned (.int .i64 r1) ∧ RD w0 w' g s0 r2 r3 r4 ∧ Below w0.heap.size w0 w' ∧ KeepBut w w' g none := by
  simp only [num_Reader_Left.f, Option.some.injEq, Prod.mk.injEq] at h
  obtain ⟨rfl, rfl, rfl, rfl⟩ := h
  refine (rd_left g s0 s1 s2 s3 w0 w hI).mono ?_
  rintro e w' ⟨rfl, hd⟩
  exact ⟨rfl, hI.below hd.below, below_then hB hB.size hd.below, KeepBut.of_below hd.below g none⟩

end Go.Proofs.YtdabdhimidfofaaDoor.PFrame

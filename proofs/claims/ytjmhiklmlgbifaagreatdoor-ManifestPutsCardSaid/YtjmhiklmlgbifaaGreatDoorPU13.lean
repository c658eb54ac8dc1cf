/- Texts of this proof, put into one, without what it does not use: PManx11, PManx12, PManx13, PManx16, ManE, ManC. -/
import Derived.Test.YtjmhiklmlgbifaaGreatDoorPU3
import Derived.Test.YtjmhiklmlgbifaaGreatDoorPU12
import Derived.Outline
import Derived.Handy
import Derived.StillTailTactics
import Derived.Test.YtjmhiklmlgbifaaGreatDoorPU5
import Derived.Test.YtjmhiklmlgbifaaGreatDoorPU6
section
namespace Go.Proofs.YtjmhiklmlgbifaaGreatDoor.PMan
open Go.RowKit Go.Proofs.YtjmhiklmlgbifaaGreatDoorW.PrintWords Go.Proofs.YtjmhiklmlgbifaaGreatDoorW.PrintLast Go.Proofs.YtjmhiklmlgbifaaGreatDoorW.PrintMore
attribute [local go_sem] max2_int min2_int max_two min_two max_three min_three max_four min_four   -- for this text's walks alone
set_option linter.unusedVariables false
set_option linter.unusedSimpArgs false
theorem ErrT.of_keep {w W : World} {tb : Nat} (h : ErrT w) (hk : KeepBut w W tb none) (hne : 0 ≠ tb) : ErrT W :=
  (World.cell?_of_block (w := w) (hk.2 _ h.lt hne (by simp))).trans h
/-- The same, told by blocks: the variable's block is set; nothing else that was turns. -/
theorem as_setF (e : Addr) (tb : Nat) (old : Value) (w : World) (hg : ErrT w) (ht : w.heap[tb]? = some (.cells #[old] 179 (0, 0))) :
    Calls Tryz.prog 117 #[.iface 179 (.pointer (some e)), .iface 181 (.pointer (some ⟨tb, 0, none⟩))] w fun ev w' => ev = .returned (.bool true) ∧ w'.heap[tb]? = some (.cells #[.pointer (some e)] 179 (0, 0)) ∧ KeepBut w w' tb none ∧ Below tb w w' := by
  refine (as_hitF e ⟨tb, 0, none⟩ old w hg (blk_cell ht 0) (blk_frozen ht 0)).mono ?_
  rintro ev w' ⟨rfl, rfl⟩
  have hl := blk_lt ht
  have b0 : Below w.heap.size w _ := below_alloc (below_alloc (below_alloc (below_alloc (Below.refl _ w) (.cells #[.pointer (some ⟨tb, 0, none⟩)] 181)) (.cells #[.pointer (some ⟨4, 181, none⟩), .pointer (some ⟨w.heap.size, 0, none⟩), .int .u64 150] 214)) (.cells #[.pointer (some ⟨4, 181, none⟩), .pointer (some ⟨w.heap.size, 0, none⟩), .int .u64 150] 214)) (.cells #[.pointer (some e)] 179)
  have b1 := (b0.block tb hl).trans ht
  refine ⟨rfl, by simpa using blk_set b1 0 (.pointer (some e)), (KeepBut.of_below b0 tb none).set_ 0 _, ?_⟩
  exact (b0.mono (Nat.le_of_lt hl)).setCell (Nat.le_refl _) _
/-- The same, told by blocks: the variable's block is set; nothing else that was turns. -/
theorem as_setC (h : Nat) (p c : Int) (tb : Nat) (old : Value) (w : World) (hg : ErrT w) (hh : w.heap[h]? = some (.cells #[.int .i64 p, .iface 31 (.int .i64 c)] 184 (0, 0))) (ht : w.heap[tb]? = some (.cells #[old] 31 (0, 0))) :
    Calls Tryz.prog 117 #[.iface 179 (.pointer (some ⟨h, 0, none⟩)), .iface 182 (.pointer (some ⟨tb, 0, none⟩))] w fun ev w' => ev = .returned (.bool true) ∧ w'.heap[tb]? = some (.cells #[.int .i64 c] 31 (0, 0)) ∧ KeepBut w w' tb none ∧ Below tb w w' := by
  refine (as_hitC h p c ⟨tb, 0, none⟩ old w hg hh (blk_cell ht 0) (blk_frozen ht 0)).mono ?_
  rintro ev w' ⟨rfl, rfl⟩
  have hl := blk_lt ht
  have b0 : Below w.heap.size w _ := below_alloc (below_alloc (below_alloc (below_alloc (Below.refl _ w) (.cells #[.pointer (some ⟨tb, 0, none⟩)] 182)) (.cells #[.pointer (some ⟨4, 182, none⟩), .pointer (some ⟨w.heap.size, 0, none⟩), .int .u64 150] 214)) (.cells #[.pointer (some ⟨4, 182, none⟩), .pointer (some ⟨w.heap.size, 0, none⟩), .int .u64 150] 214)) (.cells #[.int .i64 c] 31)
  have b1 := (b0.block tb hl).trans ht
  refine ⟨rfl, by simpa using blk_set b1 0 (.int .i64 c), (KeepBut.of_below b0 tb none).set_ 0 _, ?_⟩
  exact (b0.mono (Nat.le_of_lt hl)).setCell (Nat.le_refl _) _
set_option maxHeartbeats 1600000 in
set_option maxRecDepth 100000 in
/-- r.Err(): the error's code and its place. -/
theorem rd_err (g : Nat) (s0 : List Int) (s1 s2 s3 : Int) (w0 w : World) (hg : ErrT w) (hI : RD w0 w g s0 s1 s2 s3) :
    Calls Tryz.prog 89 #[.pointer (some ⟨g, 0, none⟩)] w fun e w' => e = .returned (.tuple #[.int .i64 s2, .int .i64 s3]) ∧ Below w.heap.size w w' := by
  have hgl := hI.lt
  obtain ⟨A, c, ev, h1, h2, h3, h4, h5⟩ := hI
  have hc := blk_cell h1 2
  simp only [List.getElem?_toArray] at hc
  have HG := Aside0.mk hg
  clear hg h2 h3 h4
  rcases h5 with ⟨rfl, rfl, rfl⟩ | ⟨hne, k, _, rfl, hk⟩
  · have H1 := Aside0.mk h1
    clear h1
    go_enter Tryz.func89, Tryz.ntmps89
    go_wp2_with fail
    refine (as_nil _ _).mono ?_
    rintro e w' ⟨rfl, rfl⟩
    go_wp2
    refine bodyPost_ret (v := .tuple #[.int .i64 0, .int .i64 0]) ?_ rfl ⟨rfl, ?_⟩
    · simp [results, Tryz.results89, go_sem]
    · exact below_alloc (below_alloc (Below.refl _ w) _) _
  · have H1 := Aside0.mk h1
    have HK := Aside0.mk hk
    clear h1 hk
    go_enter Tryz.func89, Tryz.ntmps89
    have hb1 := heap_alloc2_new w (.cells #[.int .i64 0] 31) (.cells #[.pointer none] 179)
    have hb0 := heap_alloc2_old w (.cells #[.int .i64 0] 31) (.cells #[.pointer none] 179)
    have hk1 := (below_alloc (below_alloc (Below.refl _ w) (.cells #[.int .i64 0] 31)) (.cells #[.pointer none] 179)).block k (blk_lt HK.out)
    rw [HK.out] at hk1
    have HB0 := Aside0.mk hb0
    have HK1 := Aside0.mk hk1
    clear hb0 hk1
    have hgl1 : ErrT ((w.alloc (.cells #[.int .i64 0] 31)).alloc (.cells #[.pointer none] 179)) := HG.out.below (below_alloc (below_alloc (Below.refl _ w) _) _)
    have HB1 := Aside0.mk hb1
    have HGL := Aside0.mk hgl1
    clear hb1 hgl1
    go_wp2_with fail
    refine (as_setF ⟨k, 0, none⟩ (w.heap.size + 1) (.pointer none) _ HGL.out HB1.out).mono ?_
    rintro e w2 ⟨rfl, t1, t2, t3⟩
    have hsz : w.heap.size + 2 ≤ w2.heap.size := by have := t2.1; simp at this; omega
    have u0 := (t2.2 w.heap.size (by simp <;> omega) (by omega) (by simp)).trans HB0.out
    have uk := (t2.2 k (by have := blk_lt HK.out; simp <;> omega) (by have := blk_lt HK.out; omega) (by simp)).trans HK1.out
    have ug : ErrT w2 := HGL.out.of_keep t2 (by have := HG.out.lt; omega)
    have ub : Below w.heap.size w w2 := (below_alloc (below_alloc (Below.refl _ w) _) _).trans (t3.mono (by omega))
    have c1 := blk_cell t1 0
    simp only [List.getElem?_toArray] at c1
    have T1 := Aside0.mk t1
    have U0 := Aside0.mk u0
    have UK := Aside0.mk uk
    have UG := Aside0.mk ug
    have UB := Aside0.mk ub
    have HSZ := Aside0.mk hsz
    clear t1 t2 t3 u0 uk ug ub hsz HB0 HK1 HB1 HGL
    go_wp2_with fail
    refine (as_setC k s3 s2 w.heap.size (.int .i64 0) _ UG.out UK.out U0.out).mono ?_
    rintro e w3 ⟨rfl, t1, t2, t3⟩
    have x0 := (t2.2 (w.heap.size + 1) (by have := HSZ.out; omega) (by omega) (by simp)).trans T1.out
    have xk := (t2.2 k (by have := HSZ.out; have := blk_lt HK.out; omega) (by have := blk_lt HK.out; omega) (by simp)).trans UK.out
    have ub : Below w.heap.size w w3 := UB.out.trans (t3.mono (Nat.le_refl _))
    have d0 := blk_cell t1 0
    have d1 := blk_cell x0 0
    have dk := blk_cell xk 0
    have f0 := blk_frozen t1 0
    simp only [List.getElem?_toArray] at d0 d1 dk
    have T0 := Aside0.mk t1
    have UB3 := Aside0.mk ub
    clear t1 t2 t3 x0 xk ub c1 hc
    go_wp2_with fail
    go_region
    go_wp2
    have y0 := blk_cell (blk_set T0.out 0 (.int .i64 s2)) 0
    simp only [List.setIfInBounds_toArray, List.set_cons_zero, List.getElem?_toArray] at y0
    refine bodyPost_ret (v := .tuple #[.int .i64 s2, .int .i64 s3]) ?_ rfl ⟨rfl, ?_⟩
    · simp [results, Tryz.results89, go_sem, y0]
    · exact below_drew (UB3.out.setCell (Nat.le_refl _) _)
def num_Reader_Err.f (s0 : List Int) (s1 s2 s3 : Int) : Option (Int × Int × Int × Int × Int) := some (s2, s3, s1, s2, s3)
theorem num_Reader_Err.calls (g : Nat) (s0 : List Int) (s1 s2 s3 : Int) (r1 r2 r3 r4 r5 : Int) (w0 w : World) (hI : RD w0 w g s0 s1 s2 s3) (hB : Below w0.heap.size w0 w) (hG : ErrT w0) (h : num_Reader_Err.f s0 s1 s2 s3 = some (r1, r2, r3, r4, r5)) :
    Calls Tryz.prog 89 #[.pointer (some ⟨g, 0, none⟩)] w fun e w' => e = .returned (.tuple #[.int .i64 r1, .int .i64 r2]) ∧ RD w0 w' g s0 r3 r4 r5 ∧ Below w0.heap.size w0 w' ∧ KeepBut w w' g none := by
  simp only [num_Reader_Err.f, Option.some.injEq, Prod.mk.injEq] at h
  obtain ⟨rfl, rfl, rfl, rfl, rfl⟩ := h
  refine (rd_err g s0 s1 s2 s3 w0 w (hG.of_below hB) hI).mono ?_
  rintro e w' ⟨rfl, hb⟩
  exact ⟨rfl, hI.below hb, below_then hB hB.size hb, KeepBut.of_below hb g none⟩
def num_Reader_ok.f (s0 : List Int) (s1 s2 s3 : Int) : Option (Bool × Int × Int × Int) := some (s2 == 0, s1, s2, s3)
set_option maxHeartbeats 800000 in
set_option maxRecDepth 100000 in
/-- r.ok(): nothing turns. -/
theorem rd_ok (g : Nat) (s0 : List Int) (s1 s2 s3 : Int) (w0 w : World) (hI : RD w0 w g s0 s1 s2 s3) :
    Calls Tryz.prog 124 #[.pointer (some ⟨g, 0, none⟩)] w fun e w' => e = .returned (.bool (s2 == 0)) ∧ w = w' := by
  obtain ⟨A, c, ev, h1, h2, h3, h4, h5⟩ := hI
  have hc := blk_cell h1 2
  simp only [List.getElem?_toArray] at hc
  rcases h5 with ⟨rfl, rfl, rfl⟩ | ⟨hne, k, _, rfl, hk⟩
  · go_enter Tryz.func124, Tryz.ntmps124
    go_wp2
    go_ret
    exact ⟨rfl, rfl⟩
  · have hf : (s2 == 0) = false := by simpa using hne
    go_enter Tryz.func124, Tryz.ntmps124
    go_wp2
    go_ret
    exact ⟨by rw [hf]; rfl, rfl⟩
theorem num_Reader_ok.calls (g : Nat) (s0 : List Int) (s1 s2 s3 : Int) (r1 : Bool) (r2 r3 r4 : Int) (w0 w : World) (hI : RD w0 w g s0 s1 s2 s3) (hB : Below w0.heap.size w0 w) (h : num_Reader_ok.f s0 s1 s2 s3 = some (r1, r2, r3, r4)) :
    Calls Tryz.prog 124 #[.pointer (some ⟨g, 0, none⟩)] w fun e w' => e = .returned (.bool r1) ∧ RD w0 w' g s0 r2 r3 r4 ∧ Below w0.heap.size w0 w' ∧ KeepBut w w' g none := by
  simp only [num_Reader_ok.f, Option.some.injEq, Prod.mk.injEq] at h
  obtain ⟨rfl, rfl, rfl, rfl⟩ := h
  refine (rd_ok g s0 s1 s2 s3 w0 w hI).mono ?_
  rintro e w' ⟨rfl, rfl⟩
  exact ⟨rfl, hI, hB, KeepBut.refl _ _ _⟩
def num_Reader_Fail.f (s0 : List Int) (s1 s2 s3 : Int) (a1 : Int) : Option (Int × Int × Int) := some (if s2 = 0 then (if a1 = 0 then (s1, s2, s3) else (s1, a1, s1)) else (s1, s2, s3))
set_option maxHeartbeats 800000 in
set_option maxRecDepth 100000 in
theorem rd_fail_no (g : Nat) (s0 : List Int) (s1 s2 s3 a1 : Int) (w0 w : World) (hI : RD w0 w g s0 s1 s2 s3) (hn : s2 ≠ 0 ∨ a1 = 0) :
    Calls Tryz.prog 119 #[.pointer (some ⟨g, 0, none⟩), .int .i64 a1] w fun e w' => e = .returned (.tuple #[]) ∧ w = w' := by
  have HI := Aside0.mk hI
  clear hI
  by_cases h : s2 = 0
  · have h1 : a1 = 0 := by omega
    subst h h1
    go_enter Tryz.func119, Tryz.ntmps119
    go_wp2_with fail
    refine (rd_ok g s0 _ _ _ w0 _ HI.out).mono ?_
    rintro e w' ⟨rfl, rfl⟩
    go_wp2
    go_end0
    exact ⟨rfl, rfl⟩
  · have hf := beq_eq_false_iff_ne.2 h
    clear hn
    go_enter Tryz.func119, Tryz.ntmps119
    go_wp2_with fail
    refine (rd_ok g s0 _ _ _ w0 _ HI.out).mono ?_
    rintro e w' ⟨rfl, rfl⟩
    go_wp2
    go_end0
    exact ⟨rfl, rfl⟩
theorem rd_fail_yes (g : Nat) (s0 : List Int) (s1 s3 a1 : Int) (w0 w : World) (hI : RD w0 w g s0 s1 0 s3) (hn : a1 ≠ 0) :
    Calls Tryz.prog 119 #[.pointer (some ⟨g, 0, none⟩), .int .i64 a1] w fun e w' => e = .returned (.tuple #[]) ∧ RD w0 w' g s0 s1 a1 s1 ∧ KeepBut w w' g none ∧ Below w0.heap.size w w' := by
  have HI := Aside0.mk hI
  have hf := beq_eq_false_iff_ne.2 hn
  have hf' : (a1 != 0) = true := by simpa using hn
  obtain ⟨A, c, ev, h1, h2, h3, h4, h5⟩ := hI
  have hc1 := blk_cell h1 1
  have hc2 := blk_cell h1 2
  simp only [List.getElem?_toArray] at hc1 hc2
  have hlt := blk_lt h1
  have hx1 := fun (o : Obj) => (World.cell?_alloc_lt w o ⟨g, 2, none⟩ hlt).trans hc2
  have hx2 := fun (o : Obj) => (World.frozen?_alloc_old w o ⟨g, 2, none⟩ (Nat.ne_of_lt hlt)).trans (blk_frozen h1 2)
  have H1 := Aside0.mk h1
  have H2 := Aside0.mk h2
  have H3 := Aside0.mk h3
  have H4 := Aside0.mk h4
  clear h5 h3 h1 h2 h4 hlt hc2
  go_enter Tryz.func119, Tryz.ntmps119
  go_wp2_with fail
  refine (rd_ok g s0 _ _ _ w0 _ HI.out).mono ?_
  rintro e w' ⟨rfl, rfl⟩
  go_wp2
  go_end0
  refine ⟨rfl, ?_, ?_, ?_⟩
  · refine ⟨A, c, _, by simpa using blk_set ((heap_alloc_old w _ (blk_lt H1.out)).trans H1.out) 2 _, H2.out, H3.out, H4.out, .inr ⟨hn, w.heap.size, ?_, rfl, ?_⟩⟩
    · have := blk_lt H1.out
      have := H2.out
      omega
    · rw [Below.heap_setCell _ _ _ _ (by have := blk_lt H1.out; show w.heap.size ≠ g; omega)]
      exact heap_alloc_new w _
  · exact (KeepBut.below_ (KeepBut.refl w g none) (below_alloc (Below.refl _ _) _)).set_ 2 _
  · exact ((Below.refl _ w).alloc (Nat.le_of_lt (Nat.lt_of_le_of_lt H2.out (blk_lt H1.out))) _).setCell H2.out _
theorem num_Reader_Fail.calls (g : Nat) (s0 : List Int) (s1 s2 s3 : Int) (a1 : Int) (r1 r2 r3 : Int) (w0 w : World) (hI : RD w0 w g s0 s1 s2 s3) (hB : Below w0.heap.size w0 w) (h : num_Reader_Fail.f s0 s1 s2 s3 a1 = some (r1, r2, r3)) :
    Calls Tryz.prog 119 #[.pointer (some ⟨g, 0, none⟩), .int .i64 a1] w fun e w' => e = .returned (.tuple #[]) ∧ RD w0 w' g s0 r1 r2 r3 ∧ Below w0.heap.size w0 w' ∧ KeepBut w w' g none := by
  unfold num_Reader_Fail.f at h
  have h := Option.some.inj h
  by_cases h2 : s2 = 0
  · by_cases ha : a1 = 0
    · rw [if_pos h2, if_pos ha] at h
      injection h with e1 e2
      injection e2 with e2 e3
      subst e1 e2 e3
      refine (rd_fail_no g s0 s1 s2 s3 a1 w0 w hI (.inr ha)).mono ?_
      rintro e w' ⟨rfl, rfl⟩
      exact ⟨rfl, hI, hB, KeepBut.refl _ _ _⟩
    · rw [if_pos h2, if_neg ha] at h
      injection h with e1 e2
      injection e2 with e2 e3
      subst e1 e2 e3 h2
      refine (rd_fail_yes g s0 s1 s3 a1 w0 w hI ha).mono ?_
      rintro e w' ⟨rfl, h1, h2, h3⟩
      exact ⟨rfl, h1, hB.trans h3, h2⟩
  · rw [if_neg h2] at h
    injection h with e1 e2
    injection e2 with e2 e3
    subst e1 e2 e3
    refine (rd_fail_no g s0 s1 s2 s3 a1 w0 w hI (.inl h2)).mono ?_
    rintro e w' ⟨rfl, rfl⟩
    exact ⟨rfl, hI, hB, KeepBut.refl _ _ _⟩
def num_Reader_Left.f (s0 : List Int) (s1 s2 s3 : Int) : Option (Int × Int × Int × Int) := some (wrap64 ((s0.length : Int) - s1), s1, s2, s3)
set_option maxHeartbeats 800000 in
set_option maxRecDepth 100000 in
/-- r.Left(): nothing turns but what is drawn. -/
theorem rd_left (g : Nat) (s0 : List Int) (s1 s2 s3 : Int) (w0 w : World) (hI : RD w0 w g s0 s1 s2 s3) :
    Calls Tryz.prog 126 #[.pointer (some ⟨g, 0, none⟩)] w fun e w' => e = .returned (.int .i64 (wrap64 ((s0.length : Int) - s1))) ∧ Drawn0 w w' := by
  obtain ⟨A, c, ev, h1, h2, h3, h4, h5⟩ := hI
  have hc0 := blk_cell h1 0
  have hc1 := blk_cell h1 1
  simp only [List.getElem?_toArray] at hc0 hc1
  have HM := Aside0.mk h5
  have H3 := Aside0.mk h3
  clear h5 h3
  go_enter Tryz.func126, Tryz.ntmps126
  go_wp2
  go_quiet (fail)
  go_wp2
  go_ret
  exact ⟨rfl, by repeat (first | exact Drawn0.refl _ | apply Drawn0.step)⟩
theorem num_Reader_Left.calls (g : Nat) (s0 : List Int) (s1 s2 s3 : Int) (r1 r2 r3 r4 : Int) (w0 w : World) (hI : RD w0 w g s0 s1 s2 s3) (hB : Below w0.heap.size w0 w) (h : num_Reader_Left.f s0 s1 s2 s3 = some (r1, r2, r3, r4)) :
    Calls Tryz.prog 126 #[.pointer (some ⟨g, 0, none⟩)] w fun e w' => e = .returned (.int .i64 r1) ∧ RD w0 w' g s0 r2 r3 r4 ∧ Below w0.heap.size w0 w' ∧ KeepBut w w' g none := by
  simp only [num_Reader_Left.f, Option.some.injEq, Prod.mk.injEq] at h
  obtain ⟨rfl, rfl, rfl, rfl⟩ := h
  refine (rd_left g s0 s1 s2 s3 w0 w hI).mono ?_
  rintro e w' ⟨rfl, hd⟩
  exact ⟨rfl, hI.below hd.below, below_then hB hB.size hd.below, KeepBut.of_below hd.below g none⟩
end Go.Proofs.YtjmhiklmlgbifaaGreatDoor.PMan
end
section
namespace Go.Proofs.YtjmhiklmlgbifaaGreatDoor.PMan
open Go.RowKit Go.Proofs.YtjmhiklmlgbifaaGreatDoorW.PrintWords Go.Proofs.YtjmhiklmlgbifaaGreatDoorW.PrintLast Go.Proofs.YtjmhiklmlgbifaaGreatDoorW.PrintMore
attribute [local go_sem] max2_int min2_int max_two min_two max_three min_three max_four min_four   -- for this text's walks alone
set_option linter.unusedVariables false
set_option linter.unusedSimpArgs false
/-- r.Take(n): the bytes, and what becomes of the reader. -/
def num_Reader_Take.f (s0 : List Int) (s1 s2 s3 : Int) (a1 : Int) : Option (List Int × Int × Int × Int) :=
  if s2 = 0 then
    if a1 < 0 then some ([], s1, 1, s1)
    else if 0 ≤ s1 then
      if s1 ≤ (s0.length : Int) then
        if (s0.length : Int) - s1 < a1 then some ([], s1, 2, s1)
        else if s0.length < 140737488355328 then some ((s0.take (s1 + a1).toNat).drop s1.toNat, s1 + a1, 0, s3) else none
      else none
    else none
  else some ([], s1, s2, s3)
set_option maxHeartbeats 800000 in
set_option maxRecDepth 100000 in
theorem rd_take_err (g : Nat) (s0 : List Int) (s1 s2 s3 a1 : Int) (w0 w : World) (hI : RD w0 w g s0 s1 s2 s3) (hn : s2 ≠ 0) :
    Calls Tryz.prog 127 #[.pointer (some ⟨g, 0, none⟩), .int .i64 a1] w fun e w' => e = .returned (.slice none 0 0) ∧ w = w' := by
  have HI := Aside0.mk hI
  have hf := beq_eq_false_iff_ne.2 hn
  clear hI hn
  go_enter Tryz.func127, Tryz.ntmps127
  go_wp2_with fail
  refine (rd_ok g s0 _ _ _ w0 _ HI.out).mono ?_
  rintro e w' ⟨rfl, rfl⟩
  go_wp2
  go_ret
  exact ⟨rfl, rfl⟩
set_option maxHeartbeats 800000 in
set_option maxRecDepth 100000 in
theorem rd_take_neg (g : Nat) (s0 : List Int) (s1 s3 a1 : Int) (w0 w : World) (hI : RD w0 w g s0 s1 0 s3) (hn : a1 < 0) :
    Calls Tryz.prog 127 #[.pointer (some ⟨g, 0, none⟩), .int .i64 a1] w fun e w' => e = .returned (.slice none 0 0) ∧ RD w0 w' g s0 s1 1 s1 ∧ KeepBut w w' g none ∧ Below w0.heap.size w w' := by
  have HI := Aside0.mk hI
  clear hI
  go_enter Tryz.func127, Tryz.ntmps127
  go_wp2_with fail
  refine (rd_ok g s0 _ _ _ w0 _ HI.out).mono ?_
  rintro e w' ⟨rfl, rfl⟩
  go_wp2_with fail
  refine (rd_fail_yes g s0 s1 s3 1 w0 _ HI.out (by decide)).mono ?_
  rintro e w' ⟨rfl, h⟩
  have H := Aside0.mk h
  clear h
  go_wp2
  go_ret
  exact ⟨rfl, H.out⟩
set_option maxHeartbeats 800000 in
set_option maxRecDepth 100000 in
theorem rd_take_short (g : Nat) (s0 : List Int) (s1 s3 a1 : Int) (w0 w : World) (hI : RD w0 w g s0 s1 0 s3) (h0 : 0 ≤ s1) (h1 : s1 ≤ (s0.length : Int)) (hn : (s0.length : Int) - s1 < a1) :
    Calls Tryz.prog 127 #[.pointer (some ⟨g, 0, none⟩), .int .i64 a1] w fun e w' => e = .returned (.slice none 0 0) ∧ RD w0 w' g s0 s1 2 s1 ∧ KeepBut w w' g none ∧ Below w0.heap.size w w' := by
  have HI := Aside0.mk hI
  have hm : s0.length ≤ 9223372036854775807 := by obtain ⟨_, _, _, _, _, hc, _⟩ := hI; exact Kd.C_max hc
  have hw : wrap64 ((s0.length : Int) - s1) = (s0.length : Int) - s1 := by unfold wrap64; omega
  have ha : ¬ (a1 < 0) := by omega
  have HW := Aside0.mk hw
  clear hI hw hm h0 h1
  go_enter Tryz.func127, Tryz.ntmps127
  go_wp2_with fail
  refine (rd_ok g s0 _ _ _ w0 _ HI.out).mono ?_
  rintro e w' ⟨rfl, rfl⟩
  go_wp2_with fail
  refine (rd_left g s0 s1 0 s3 w0 _ HI.out).mono ?_
  rintro e w' ⟨rfl, ⟨nd, rfl⟩⟩
  rw [HW.out]
  go_wp2_with fail
  refine (rd_fail_yes g s0 s1 s3 2 w0 _ (HI.out.drewN nd) (by decide)).mono ?_
  rintro e w' ⟨rfl, h⟩
  have H := Aside0.mk h
  clear h
  go_wp2
  go_ret
  exact ⟨rfl, H.out.1, H.out.2.1, (Below.trans (pw_below_drewN (Below.refl _ w) nd) H.out.2.2)⟩
set_option maxHeartbeats 1600000 in
set_option maxRecDepth 100000 in
theorem rd_take_yes (g : Nat) (s0 : List Int) (s1 s3 a1 : Int) (w0 w : World) (hI : RD w0 w g s0 s1 0 s3) (h0 : 0 ≤ s1) (h1 : 0 ≤ a1) (h2 : a1 ≤ (s0.length : Int) - s1) (hl : s0.length < 140737488355328) (hB : Below w0.heap.size w0 w) :
    Calls Tryz.prog 127 #[.pointer (some ⟨g, 0, none⟩), .int .i64 a1] w fun e w' => ∃ v, e = .returned v ∧ Kd.R (Kd.int .u8) 5 w' w.heap.size (fun _ => True) v ((s0.take (s1 + a1).toNat).drop s1.toNat) ∧ RD w0 w' g s0 (s1 + a1) 0 s3 ∧ KeepBut w w' g none ∧ Below w0.heap.size w w' := by
  have HI := Aside0.mk hI
  have hw : wrap64 ((s0.length : Int) - s1) = (s0.length : Int) - s1 := by unfold wrap64; omega
  have hw2 : IntKind.i64.wrap (s1 + a1) = s1 + a1 := by rw [IntKind.wrap_i64]; omega
  have hw3 : IntKind.i64.wrap s1 = s1 := by rw [IntKind.wrap_i64]; omega
  have ha : ¬ (a1 < 0) := by omega
  have hx : ¬ ((s0.length : Int) - s1 < a1) := by omega
  have HW := Aside0.mk hw
  have HL := Aside0.mk hl
  have HB := Aside0.mk hB
  obtain ⟨A, c, ev, k1, k2, k3, k4, k5⟩ := hI
  obtain ⟨i0, hi0, hz0⟩ := Option.map_eq_some_iff.1 clone_info
  simp only [Prod.mk.injEq] at hz0
  obtain ⟨A', hcut, hcr, hcl⟩ := print_mid_int (P := Tryz.prog) (k := .u8) 30 5 Tryz.underlying30 hi0 hz0.2.1 A c s0 s1 (s1 + a1) h0 (by omega) (by omega) k4
  have hc0 := blk_cell k1 0
  have hc1 := blk_cell k1 1
  have hf1 := blk_frozen k1 1
  simp only [List.getElem?_toArray] at hc0 hc1
  have K1 := Aside0.mk k1
  have K2 := Aside0.mk k2
  have KR := Aside0.mk (Kd.C_of_reads (d := (0 : Int)) (h1 := fun _ => rfl) (hcr w0 (Kd.reads_of_C k3)))
  have KC := Aside0.mk hcl
  have HLN : Aside0 (((s0.take (s1 + a1).toNat).drop s1.toNat).length < 140737488355328) := ⟨by rw [List.length_drop, List.length_take]; omega⟩
  clear hw hl hB k1 k2 k3 k4 k5 h0 h1 h2 hcr hcl hz0 hi0
  generalize (s0.take (s1 + a1).toNat).drop s1.toNat = out at *
  go_enter Tryz.func127, Tryz.ntmps127
  go_wp2_with fail
  refine (rd_ok g s0 _ _ _ w0 _ HI.out).mono ?_
  rintro e w' ⟨rfl, rfl⟩
  go_wp2_with fail
  refine (rd_left g s0 s1 0 s3 w0 _ HI.out).mono ?_
  rintro e w' ⟨rfl, ⟨nd, rfl⟩⟩
  rw [HW.out]
  go_wp2_with fail
  have hblk := blk_set (blk_drewN K1.out nd) 1 (.int .i64 (s1 + a1))
  have hsz : w.heap.size ≤ ((w.drewN nd).setCell ⟨g, 1, none⟩ (.int .i64 (s1 + a1))).heap.size := by simp
  have hkb : KeepBut w ((w.drewN nd).setCell ⟨g, 1, none⟩ (.int .i64 (s1 + a1))) g none := (KeepBut.of_below (pw_below_drewN (Below.refl _ w) nd) g none).set_ 1 _
  have hbb : Below w0.heap.size w ((w.drewN nd).setCell ⟨g, 1, none⟩ (.int .i64 (s1 + a1))) := (pw_below_drewN (Below.refl _ w) nd).setCell K2.out _
  have hrd : RD w0 ((w.drewN nd).setCell ⟨g, 1, none⟩ (.int .i64 (s1 + a1))) g s0 (s1 + a1) 0 s3 := (HI.out.drewN nd).set_at _
  generalize (w.drewN nd).setCell ⟨g, 1, none⟩ (.int .i64 (s1 + a1)) = W1 at *
  have hc0 := blk_cell hblk 0
  have hc1 := blk_cell hblk 1
  simp only [List.setIfInBounds_toArray, List.set_cons_succ, List.set_cons_zero, List.getElem?_toArray] at hc0 hc1
  have HSZ := Aside0.mk hsz
  have HKB := Aside0.mk hkb
  have HBB := Aside0.mk hbb
  have HRD := Aside0.mk hrd
  clear hblk hsz hkb hbb hrd hf1
  refine wp_region_still_tail 15 (by kernel_rfl) (by kernel_rfl) ?_
  show wpStill _ _ W1.drew _ _ _
  simp only [List.take_succ_cons, List.take_zero, List.drop_succ_cons, List.drop_zero]
  iterate 15 still_step
  refine wpStill_nil ?_
  show wpList _ _ _ _ _ W1.drew
  go_wp2_with fail
  refine (bytes_Clone.calls A' (c - s1.toNat) out out _ (Kd.C_drew (Kd.C_below KR.out (HB.out.trans HBB.out))) KC.out (by unfold bytes_Clone.f; rw [if_pos HLN.out])).mono ?_
  rintro e w' ⟨v, rfl, hr, hb⟩
  have HR := Aside0.mk hr
  have HBW := Aside0.mk hb
  clear hr hb
  go_wp2
  go_ret
  refine ⟨_, rfl, ?_, HRD.out.drew.below HBW.out, KeepBut.below_ HKB.out (below_drew (Below.refl _ W1) |>.trans HBW.out), ?_⟩
  · exact Kd.R_lower HR.out HSZ.out
  · exact HBB.out.trans ((below_drew (Below.refl _ W1)).trans (HBW.out.mono (by have := HBB.out.size; have := HB.out.size; simp; omega)))
theorem num_Reader_Take.calls (g : Nat) (s0 : List Int) (s1 s2 s3 : Int) (a1 : Int) (r1 : List Int) (r2 r3 r4 : Int) (w0 w : World) (hI : RD w0 w g s0 s1 s2 s3) (hB : Below w0.heap.size w0 w) (h : num_Reader_Take.f s0 s1 s2 s3 a1 = some (r1, r2, r3, r4)) :
    Calls Tryz.prog 127 #[.pointer (some ⟨g, 0, none⟩), .int .i64 a1] w fun e w' => ∃ v0_ : Value, e = .returned v0_ ∧ Kd.R (Kd.int .u8) 5 w' w.heap.size (fun _ => True) v0_ r1 ∧ RD w0 w' g s0 r2 r3 r4 ∧ Below w0.heap.size w0 w' ∧ KeepBut w w' g none := by
  unfold num_Reader_Take.f at h
  by_cases h2 : s2 = 0
  · rw [if_pos h2] at h
    subst h2
    by_cases hn : a1 < 0
    · rw [if_pos hn] at h
      have h := Option.some.inj h
      simp only [Prod.mk.injEq] at h
      obtain ⟨rfl, rfl, rfl, rfl⟩ := h
      refine (rd_take_neg g s0 _ s3 a1 w0 w hI hn).mono ?_
      rintro e w' ⟨rfl, h1, h2, h3⟩
      exact ⟨_, rfl, Kd.R_nil _ _ _ _ _, h1, hB.trans h3, h2⟩
    · rw [if_neg hn] at h
      by_cases h0 : 0 ≤ s1
      · rw [if_pos h0] at h
        by_cases h1 : s1 ≤ (s0.length : Int)
        · rw [if_pos h1] at h
          by_cases hs : (s0.length : Int) - s1 < a1
          · rw [if_pos hs] at h
            have h := Option.some.inj h
            simp only [Prod.mk.injEq] at h
            obtain ⟨rfl, rfl, rfl, rfl⟩ := h
            refine (rd_take_short g s0 _ s3 a1 w0 w hI h0 h1 hs).mono ?_
            rintro e w' ⟨rfl, h1, h2, h3⟩
            exact ⟨_, rfl, Kd.R_nil _ _ _ _ _, h1, hB.trans h3, h2⟩
          · rw [if_neg hs] at h
            by_cases hl : s0.length < 140737488355328
            · rw [if_pos hl] at h
              have h := Option.some.inj h
              simp only [Prod.mk.injEq] at h
              obtain ⟨rfl, rfl, rfl, rfl⟩ := h
              refine (rd_take_yes g s0 s1 _ a1 w0 w hI h0 (by omega) (by omega) hl hB).mono ?_
              rintro e w' ⟨v, rfl, hr, h1, h2, h3⟩
              exact ⟨v, rfl, hr, h1, hB.trans h3, h2⟩
            · rw [if_neg hl] at h
              cases h
        · rw [if_neg h1] at h
          cases h
      · rw [if_neg h0] at h
        cases h
  · rw [if_neg h2] at h
    have h := Option.some.inj h
    simp only [Prod.mk.injEq] at h
    obtain ⟨rfl, rfl, rfl, rfl⟩ := h
    refine (rd_take_err g s0 _ _ _ a1 w0 w hI h2).mono ?_
    rintro e w' ⟨rfl, rfl⟩
    exact ⟨_, rfl, Kd.R_nil _ _ _ _ _, hI, hB, KeepBut.refl _ _ _⟩
end Go.Proofs.YtjmhiklmlgbifaaGreatDoor.PMan
end
section
namespace Go.Proofs.YtjmhiklmlgbifaaGreatDoor.PMan
open Go.RowKit Go.Proofs.YtjmhiklmlgbifaaGreatDoorW.PrintWords Go.Proofs.YtjmhiklmlgbifaaGreatDoorW.PrintLast Go.Proofs.YtjmhiklmlgbifaaGreatDoorW.PrintMore
attribute [local go_sem] max2_int min2_int max_two min_two max_three min_three max_four min_four   -- for this text's walks alone
set_option linter.unusedVariables false
set_option linter.unusedSimpArgs false
def fixv : List Int → Option Int
  | [] => some 0
  | [a] => some (Go.bits .or .u64 0 (IntKind.u64.wrap a))
  | [a, b, c, d] => some (Go.bits .or .u64 (Go.bits .or .u64 (Go.bits .or .u64 (Go.bits .or .u64 0 (IntKind.u64.wrap (IntKind.u64.wrap d * 16777216))) (IntKind.u64.wrap (IntKind.u64.wrap c * 65536))) (IntKind.u64.wrap (IntKind.u64.wrap b * 256))) (IntKind.u64.wrap a))
  | _ => none
/-- r.Fix(n), n 1 or 4. -/
def num_Reader_Fix.f (s0 : List Int) (s1 s2 s3 : Int) (a1 : Int) : Option (Int × Int × Int × Int) :=
  if a1 = 1 ∨ a1 = 4 then (num_Reader_Take.f s0 s1 s2 s3 a1).bind fun r => (fixv r.1).bind fun v => some (v, r.2) else none
set_option maxHeartbeats 1600000 in
set_option maxRecDepth 100000 in
theorem rd_fix_0 (n : Nat) (hn : n = 1 ∨ n = 4) (g : Nat) (s0 : List Int) (s1 s2 s3 : Int) (v : Int) (r2 r3 r4 : Int) (w0 w : World) (hI : RD w0 w g s0 s1 s2 s3) (hB : Below w0.heap.size w0 w) (h : num_Reader_Take.f s0 s1 s2 s3 n = some ([], r2, r3, r4)) (hv : fixv [] = some v) :
    Calls Tryz.prog 116 #[.pointer (some ⟨g, 0, none⟩), .int .i64 n] w fun e w' => e = .returned (.int .u64 v) ∧ RD w0 w' g s0 r2 r3 r4 ∧ Below w0.heap.size w0 w' ∧ KeepBut w w' g none := by
  have HI := Aside0.mk hI
  have HB := Aside0.mk hB
  have HF := Aside0.mk h
  have hn8 : ¬ ((8 : Int) < (n : Int)) := by omega
  have HV := Aside0.mk (Option.some.inj hv)
  clear hI hB h hn hv
  go_enter Tryz.func116, Tryz.ntmps116
  go_wp2_with fail
  refine (num_Reader_Take.calls g s0 s1 s2 s3 n _ r2 r3 r4 w0 _ HI.out HB.out HF.out).mono ?_
  rintro e w1 ⟨vv, rfl, hr, h1, h2, h3⟩
  obtain ⟨A, c, rfl⟩ := Kd.R_slice hr
  have H1 := Aside0.mk h1
  have H2 := Aside0.mk h2
  have H3 := Aside0.mk h3
  clear hr h1 h2 h3
  go_wp2
  go_ret
  exact ⟨by rw [← HV.out]; rfl, H1.out, H2.out, H3.out⟩
set_option maxHeartbeats 1600000 in
set_option maxRecDepth 100000 in
theorem rd_fix_1 (n : Nat) (hn : n = 1 ∨ n = 4) (g : Nat) (s0 : List Int) (s1 s2 s3 : Int) (x0 v : Int) (r2 r3 r4 : Int) (w0 w : World) (hI : RD w0 w g s0 s1 s2 s3) (hB : Below w0.heap.size w0 w) (h : num_Reader_Take.f s0 s1 s2 s3 n = some ([x0], r2, r3, r4)) (hv : fixv [x0] = some v) :
    Calls Tryz.prog 116 #[.pointer (some ⟨g, 0, none⟩), .int .i64 n] w fun e w' => e = .returned (.int .u64 v) ∧ RD w0 w' g s0 r2 r3 r4 ∧ Below w0.heap.size w0 w' ∧ KeepBut w w' g none := by
  have HI := Aside0.mk hI
  have HB := Aside0.mk hB
  have HF := Aside0.mk h
  have hn8 : ¬ ((8 : Int) < (n : Int)) := by omega
  have HV := Aside0.mk (Option.some.inj hv)
  clear hI hB h hn hv
  go_enter Tryz.func116, Tryz.ntmps116
  go_wp2_with fail
  refine (num_Reader_Take.calls g s0 s1 s2 s3 n _ r2 r3 r4 w0 _ HI.out HB.out HF.out).mono ?_
  rintro e w1 ⟨vv, rfl, hr, h1, h2, h3⟩
  obtain ⟨gb, cap, rfl, _⟩ := Kd.R_form hr (by simp)
  have c0 : w1.cell? ⟨gb, 0, none⟩ = some (.int .u8 x0) := (Kd.R_cell (0 : Int) hr 0 (by omega) (by simp)).1
  have H1 := Aside0.mk h1
  have H2 := Aside0.mk h2
  have H3 := Aside0.mk h3
  clear hr h1 h2 h3
  go_wp2
  go_ret
  exact ⟨by rw [← HV.out]; rfl, H1.out, H2.out, H3.out⟩
set_option maxHeartbeats 1600000 in
set_option maxRecDepth 100000 in
theorem rd_fix_4 (n : Nat) (hn : n = 1 ∨ n = 4) (g : Nat) (s0 : List Int) (s1 s2 s3 : Int) (x0 x1 x2 x3 v : Int) (r2 r3 r4 : Int) (w0 w : World) (hI : RD w0 w g s0 s1 s2 s3) (hB : Below w0.heap.size w0 w) (h : num_Reader_Take.f s0 s1 s2 s3 n = some ([x0, x1, x2, x3], r2, r3, r4)) (hv : fixv [x0, x1, x2, x3] = some v) :
    Calls Tryz.prog 116 #[.pointer (some ⟨g, 0, none⟩), .int .i64 n] w fun e w' => e = .returned (.int .u64 v) ∧ RD w0 w' g s0 r2 r3 r4 ∧ Below w0.heap.size w0 w' ∧ KeepBut w w' g none := by
  have HI := Aside0.mk hI
  have HB := Aside0.mk hB
  have HF := Aside0.mk h
  have hn8 : ¬ ((8 : Int) < (n : Int)) := by omega
  have HV := Aside0.mk (Option.some.inj hv)
  clear hI hB h hn hv
  go_enter Tryz.func116, Tryz.ntmps116
  go_wp2_with fail
  refine (num_Reader_Take.calls g s0 s1 s2 s3 n _ r2 r3 r4 w0 _ HI.out HB.out HF.out).mono ?_
  rintro e w1 ⟨vv, rfl, hr, h1, h2, h3⟩
  obtain ⟨gb, cap, rfl, _⟩ := Kd.R_form hr (by simp)
  have c0 : w1.cell? ⟨gb, 0, none⟩ = some (.int .u8 x0) := (Kd.R_cell (0 : Int) hr 0 (by omega) (by simp)).1
  have c1 : w1.cell? ⟨gb, 1, none⟩ = some (.int .u8 x1) := (Kd.R_cell (0 : Int) hr 1 (by omega) (by simp)).1
  have c2 : w1.cell? ⟨gb, 2, none⟩ = some (.int .u8 x2) := (Kd.R_cell (0 : Int) hr 2 (by omega) (by simp)).1
  have c3 : w1.cell? ⟨gb, 3, none⟩ = some (.int .u8 x3) := (Kd.R_cell (0 : Int) hr 3 (by omega) (by simp)).1
  have H1 := Aside0.mk h1
  have H2 := Aside0.mk h2
  have H3 := Aside0.mk h3
  clear hr h1 h2 h3
  go_wp2
  go_ret
  exact ⟨by rw [← HV.out]; rfl, H1.out, H2.out, H3.out⟩
theorem num_Reader_Fix.calls (g : Nat) (s0 : List Int) (s1 s2 s3 : Int) (a1 : Int) (r1 r2 r3 r4 : Int) (w0 w : World) (hI : RD w0 w g s0 s1 s2 s3) (hB : Below w0.heap.size w0 w) (h : num_Reader_Fix.f s0 s1 s2 s3 a1 = some (r1, r2, r3, r4)) :
    Calls Tryz.prog 116 #[.pointer (some ⟨g, 0, none⟩), .int .i64 a1] w fun e w' => e = .returned (.int .u64 r1) ∧ RD w0 w' g s0 r2 r3 r4 ∧ Below w0.heap.size w0 w' ∧ KeepBut w w' g none := by
  unfold num_Reader_Fix.f at h
  by_cases ha : a1 = 1 ∨ a1 = 4
  · rw [if_pos ha] at h
    obtain ⟨n, rfl⟩ : ∃ n : Nat, a1 = (n : Int) := ⟨a1.toNat, by omega⟩
    have hn : n = 1 ∨ n = 4 := by omega
    obtain ⟨⟨l, q2, q3, q4⟩, h1, h⟩ := Option.bind_eq_some_iff.mp h
    obtain ⟨v, hv, h⟩ := Option.bind_eq_some_iff.mp h
    have h := Option.some.inj h
    simp only [Prod.mk.injEq] at h
    obtain ⟨rfl, rfl, rfl, rfl⟩ := h
    match l, h1, hv with
    | [], h1, hv => exact rd_fix_0 n hn g s0 s1 s2 s3 _ _ _ _ w0 w hI hB h1 hv
    | [x0], h1, hv => exact rd_fix_1 n hn g s0 s1 s2 s3 x0 _ _ _ _ w0 w hI hB h1 hv
    | [x0, x1, x2, x3], h1, hv => exact rd_fix_4 n hn g s0 s1 s2 s3 x0 x1 x2 x3 _ _ _ _ w0 w hI hB h1 hv
  · rw [if_neg ha] at h
    cases h
end Go.Proofs.YtjmhiklmlgbifaaGreatDoor.PMan
end
section
namespace Go.Proofs.YtjmhiklmlgbifaaGreatDoor.PMan
open Go.RowKit Go.Proofs.YtjmhiklmlgbifaaGreatDoorW.PrintWords Go.Proofs.YtjmhiklmlgbifaaGreatDoorW.PrintLast Go.Proofs.YtjmhiklmlgbifaaGreatDoorW.PrintMore
attribute [local go_sem] max2_int min2_int max_two min_two max_three min_three max_four min_four   -- for this text's walks alone
set_option linter.unusedVariables false
set_option linter.unusedSimpArgs false
mutual
def num_short.l0 : Nat → List Int → Int → Int → Int → Option (Int × Int × Int)
  | 0, _, _, _, _ => none
  | k + 1, x0, x2, x3, x5 => if x3 = (x0.length : Int) then (some (0, 0, 2)) else (if 0 ≤ x3 then (if x3 < (x0.length : Int) then (if x5 ≥ 64 then (num_short.j1 k x0 x2 (wrap64 (x3 + 1)) x5 (rd x0 x3) (IntKind.u64.wrap (Go.bits .and .u8 (rd x0 x3) 127)) (decide (x5 ≥ 64))) else (if (wrap64 (x5 + 7)) > 64 then (if 0 ≤ (IntKind.u64.wrap (wrap64 (64 - x5))) then (num_short.j1 k x0 x2 (wrap64 (x3 + 1)) x5 (rd x0 x3) (IntKind.u64.wrap (Go.bits .and .u8 (rd x0 x3) 127)) ((shr .u64 (IntKind.u64.wrap (Go.bits .and .u8 (rd x0 x3) 127)) (IntKind.u64.wrap (wrap64 (64 - x5)))) != 0)) else (none)) else (num_short.j1 k x0 x2 (wrap64 (x3 + 1)) x5 (rd x0 x3) (IntKind.u64.wrap (Go.bits .and .u8 (rd x0 x3) 127)) false))) else (none)) else (none))
def num_short.j1 : Nat → List Int → Int → Int → Int → Int → Int → Bool → Option (Int × Int × Int)
  | 0, _, _, _, _, _, _, _ => none
  | k + 1, x0, x2, x3, x5, x6, x7, x29 => if x29 = true then (some (0, 0, 4)) else (if x6 = 0 then (num_short.j2 k x0 x2 x3 x5 x6 x7 (decide (x3 > 1))) else (num_short.j2 k x0 x2 x3 x5 x6 x7 false))
def num_short.j2 : Nat → List Int → Int → Int → Int → Int → Int → Bool → Option (Int × Int × Int)
  | 0, _, _, _, _, _, _, _ => none
  | k + 1, x0, x2, x3, x5, x6, x7, x43 => if x43 = true then (some (0, 0, 4)) else (if 0 ≤ (IntKind.u64.wrap (x5)) then (if (Go.bits .and .u8 x6 128) = 0 then (some (Go.bits .or .u64 x2 (shl .u64 x7 (IntKind.u64.wrap (x5))), x3, 0)) else (num_short.l0 k x0 (Go.bits .or .u64 x2 (shl .u64 x7 (IntKind.u64.wrap (x5)))) x3 (wrap64 (x5 + 7)))) else (none))
end
def num_short.f (k : Nat) (l0 : List Int) : Option (Int × Int × Int) := num_short.l0 k l0 0 0 0
theorem num_short.mono_l : ∀ k, (∀ y0 y1 y2 y3, LeO (num_short.l0 k y0 y1 y2 y3) (num_short.l0 (k + 1) y0 y1 y2 y3)) ∧ (∀ y0 y1 y2 y3 y4 y5 y6, LeO (num_short.j1 k y0 y1 y2 y3 y4 y5 y6) (num_short.j1 (k + 1) y0 y1 y2 y3 y4 y5 y6)) ∧ (∀ y0 y1 y2 y3 y4 y5 y6, LeO (num_short.j2 k y0 y1 y2 y3 y4 y5 y6) (num_short.j2 (k + 1) y0 y1 y2 y3 y4 y5 y6))
  | 0 => ⟨fun _ _ _ _ r h => by simp [num_short.l0] at h, fun _ _ _ _ _ _ _ r h => by simp [num_short.j1] at h, fun _ _ _ _ _ _ _ r h => by simp [num_short.j2] at h⟩
  | k + 1 => by
    obtain ⟨ih0, ih1, ih2⟩ := num_short.mono_l k
    refine ⟨?_, ?_, ?_⟩
    · intro y0 y1 y2 y3
      unfold num_short.l0
      repeat' first
      | (with_reducible exact ih0 _ _ _ _)
      | (with_reducible exact ih1 _ _ _ _ _ _ _)
      | (with_reducible exact ih2 _ _ _ _ _ _ _)
      | (with_reducible exact LeO.refl _)
      | (with_reducible exact LeO.none _)
      | (with_reducible refine LeO.ite ?_ ?_)
      | (with_reducible refine LeO.bind ?_ (fun _ => ?_))
      | exact ih0 _ _ _ _
      | exact ih1 _ _ _ _ _ _ _
      | exact ih2 _ _ _ _ _ _ _
      | exact LeO.none _
      | refine LeO.ite ?_ ?_
      | refine LeO.bind ?_ (fun _ => ?_)
    · intro y0 y1 y2 y3 y4 y5 y6
      unfold num_short.j1
      repeat' first
      | (with_reducible exact ih0 _ _ _ _)
      | (with_reducible exact ih1 _ _ _ _ _ _ _)
      | (with_reducible exact ih2 _ _ _ _ _ _ _)
      | (with_reducible exact LeO.refl _)
      | (with_reducible exact LeO.none _)
      | (with_reducible refine LeO.ite ?_ ?_)
      | (with_reducible refine LeO.bind ?_ (fun _ => ?_))
      | exact ih0 _ _ _ _
      | exact ih1 _ _ _ _ _ _ _
      | exact ih2 _ _ _ _ _ _ _
      | exact LeO.none _
      | refine LeO.ite ?_ ?_
      | refine LeO.bind ?_ (fun _ => ?_)
    · intro y0 y1 y2 y3 y4 y5 y6
      unfold num_short.j2
      repeat' first
      | (with_reducible exact ih0 _ _ _ _)
      | (with_reducible exact ih1 _ _ _ _ _ _ _)
      | (with_reducible exact ih2 _ _ _ _ _ _ _)
      | (with_reducible exact LeO.refl _)
      | (with_reducible exact LeO.none _)
      | (with_reducible refine LeO.ite ?_ ?_)
      | (with_reducible refine LeO.bind ?_ (fun _ => ?_))
      | exact ih0 _ _ _ _
      | exact ih1 _ _ _ _ _ _ _
      | exact ih2 _ _ _ _ _ _ _
      | exact LeO.none _
      | refine LeO.ite ?_ ?_
      | refine LeO.bind ?_ (fun _ => ?_)
theorem num_short.mono : ∀ a0 k, LeO (num_short.f k a0) (num_short.f (k + 1) a0) := by
  intro a0 k
  obtain ⟨ih0, ih1, ih2⟩ := num_short.mono_l k
  unfold num_short.f
  repeat' first
      | (with_reducible exact ih0 _ _ _ _)
      | (with_reducible exact ih1 _ _ _ _ _ _ _)
      | (with_reducible exact ih2 _ _ _ _ _ _ _)
      | (with_reducible exact LeO.refl _)
      | (with_reducible exact LeO.none _)
      | (with_reducible refine LeO.ite ?_ ?_)
      | (with_reducible refine LeO.bind ?_ (fun _ => ?_))
      | exact ih0 _ _ _ _
      | exact ih1 _ _ _ _ _ _ _
      | exact ih2 _ _ _ _ _ _ _
      | exact LeO.none _
      | refine LeO.ite ?_ ?_
      | refine LeO.bind ?_ (fun _ => ?_)
set_option maxHeartbeats 8000000 in
set_option maxRecDepth 100000 in
theorem num_short.calls (k : Nat) (A0 : Option Addr) (c0 : Nat) (l0 : List Int) (r1 : Int) (r2 : Int) (r3 : Int) (w : World) (hr0 : Kd.C (Kd.int .u8) w A0 l0.length l0) (hc0 : l0.length ≤ c0) (h : num_short.f k l0 = some (r1, r2, r3)) :
    Calls Tryz.prog 125 #[.slice A0 l0.length c0] w fun e w' => e = .returned (.tuple #[.int .u64 r1, .int .i64 r2, .int .i64 r3]) ∧ Drawn0 w w' := by
  have HR0 := Aside0.mk hr0
  have HC0 := Aside0.mk hc0
  clear hr0 hc0
  have H : (num_short.l0 k l0 0 0 0) = some (r1, r2, r3) := h
  clear h
  have H' := Aside0.mk H
  clear H
  go_enter Tryz.func125, Tryz.ntmps125
  go_wp2
  go_loopg [2, 3, 5] k (fun kq v2 v3 v5 w' => ∃ (x2_1 : Int) (x3_1 : Int) (x5_1 : Int), v2 = .int .u64 x2_1 ∧ v3 = .int .i64 x3_1 ∧ v5 = .int .i64 x5_1 ∧ Aside0 (num_short.l0 kq l0 x2_1 x3_1 x5_1 = some (r1, r2, r3)) ∧ Aside0 (kq ≤ k) ∧ Drawn0 w w')
  case atStart => exact ⟨(0), (0), (0), (by first | rfl | (simp; done) | (simp [*]; done)), (by first | rfl | (simp; done) | (simp [*]; done)), (by first | rfl | (simp; done) | (simp [*]; done)), H', ⟨Nat.le_refl _⟩, by repeat (first | exact Drawn0.refl _ | apply Drawn0.step)⟩
  case round =>
    clear H'
    try clear c1
    obtain ⟨x2_1, x3_1, x5_1, rfl, rfl, rfl, HA, HK1, ⟨m1, rfl⟩⟩ := hrel
    cases gk with
    | zero => exact absurd HA.out (by simp [num_short.l0])
    | succ k1 =>
      have H := HA.out
      clear HA
      simp only [num_short.l0] at H
      by_cases c2 : x3_1 = (l0.length : Int)
      · rw [if_pos c2] at H
        have c2b0 : (x3_1 == (l0.length : Int)) = true := beq_iff_eq.mpr c2
        have c2b1 : (x3_1 != (l0.length : Int)) = false := bne_eq_false_iff_eq.mpr c2
        clear c2
        simp only [Option.some.injEq, Prod.mk.injEq] at H
        obtain ⟨rfl, rfl, rfl⟩ := H
        go_wp2
        go_ret3
        exact ⟨by first | rfl | (simp; done) | (simp [*]; done), by repeat (first | exact Drawn0.refl _ | apply Drawn0.step)⟩
      · rw [if_neg c2] at H
        have c2b0 : (x3_1 == (l0.length : Int)) = false := beq_eq_false_iff_ne.mpr c2
        have c2b1 : (x3_1 != (l0.length : Int)) = true := bne_iff_ne.mpr c2
        by_cases c3 : 0 ≤ x3_1
        · rw [if_pos c3] at H
          have c3b0 : decide (0 ≤ x3_1) = true := decide_eq_true c3
          clear c3
          by_cases c4 : x3_1 < (l0.length : Int)
          · rw [if_pos c4] at H
            have c4b0 : decide (x3_1 < (l0.length : Int)) = true := decide_eq_true c4
            clear c4
            have HC5 := Aside0.mk H
            clear H
            have p162 : 0 ≤ (x3_1 : Int) := of_decide_eq_true (by first | (with_reducible assumption) | assumption)
            have q162 : x3_1 < (l0.length : Int) := of_decide_eq_true (by first | (with_reducible assumption) | assumption)
            obtain ⟨ad162, e162, hx162_0⟩ := Kd.at_int HR0.out x3_1 p162 q162
            cases e162
            replace p162 := eq_true p162
            replace q162 := eq_true q162
            go_upto_if 29 with (fail)
            go_cut [29] (fun v29 wc => ∃ (kq : Nat) (x29_4 : Bool), v29 = .bool x29_4 ∧ Aside0 (num_short.j1 kq l0 x2_1 (wrap64 (x3_1 + 1)) x5_1 (rd l0 x3_1) (IntKind.u64.wrap (Go.bits .and .u8 (rd l0 x3_1) 127)) x29_4 = some (r1, r2, r3)) ∧ Aside0 (kq ≤ k1) ∧ Drawn0 w wc)
            case first =>
              have H := HC5.out
              clear HC5
              by_cases c6 : x5_1 ≥ 64
              · rw [if_pos c6] at H
                have c6b0 : decide (64 ≤ x5_1) = true := decide_eq_true c6
                clear c6
                (first | rw [c6b0] | (simp only [i64_w, i32_w]; rw [c6b0]) | skip)
                have H' := Aside0.mk H
                clear H
                go_wp2
                go_meet
                case rel => exact ⟨_, (decide (x5_1 ≥ 64)), (by first | rfl | (simp; done) | (simp [*]; done)), H', ⟨by have := HK1.out; first | omega | exact Nat.le_refl _⟩, by repeat (first | exact Drawn0.refl _ | apply Drawn0.step)⟩
              · rw [if_neg c6] at H
                have c6b0 : decide (64 ≤ x5_1) = false := decide_eq_false c6
                clear c6
                (first | rw [c6b0] | (simp only [i64_w, i32_w]; rw [c6b0]) | skip)
                by_cases c7 : (wrap64 (x5_1 + 7)) > 64
                · rw [if_pos c7] at H
                  have c7b0 : decide (64 < (wrap64 (x5_1 + 7))) = true := decide_eq_true c7
                  clear c7
                  obtain ⟨ji8, hji8⟩ : ∃ j_ : Int, (IntKind.u64.wrap (wrap64 (64 - x5_1))) = j_ := ⟨_, rfl⟩
                  replace H : (if 0 ≤ (ji8) then (num_short.j1 k1 l0 x2_1 (wrap64 (x3_1 + 1)) x5_1 (rd l0 x3_1) (IntKind.u64.wrap (Go.bits .and .u8 (rd l0 x3_1) 127)) ((shr .u64 (IntKind.u64.wrap (Go.bits .and .u8 (rd l0 x3_1) 127)) (ji8)) != 0)) else (none)) = some (r1, r2, r3) := by first | (rw [hji8] at H; exact H) | (simp only [hji8] at H ⊢; exact H)
                  by_cases c9 : 0 ≤ (ji8)
                  · rw [if_pos c9] at H
                    have c9b0 := eq_true c9
                    have c9b1 : decide (0 ≤ (ji8)) = true := decide_eq_true c9
                    clear c9
                    obtain ⟨ji10, hji10⟩ : ∃ j_ : Int, (shr .u64 (IntKind.u64.wrap (Go.bits .and .u8 (rd l0 x3_1) 127)) (ji8)) = j_ := ⟨_, rfl⟩
                    replace H : (num_short.j1 k1 l0 x2_1 (wrap64 (x3_1 + 1)) x5_1 (rd l0 x3_1) (IntKind.u64.wrap (Go.bits .and .u8 (rd l0 x3_1) 127)) ((ji10) != 0)) = some (r1, r2, r3) := by first | (rw [hji10] at H; exact H) | (simp only [hji10] at H ⊢; exact H)
                    have hji10_ : ((IntKind.u64.wrap (Go.bits .and .u8 (rd l0 x3_1) 127)) / 2 ^ min (ji8).toNat 64) = ji10 := hji10
                    have hji10z : (ji8) ≤ 64 → ((IntKind.u64.wrap (Go.bits .and .u8 (rd l0 x3_1) 127)) / 2 ^ (ji8).toNat) = ji10 := shr_small hji10
                    have H' := Aside0.mk H
                    clear H
                    go_wp2
                    go_meet
                    case rel => exact ⟨_, (((ji10) != 0)), (by first | rfl | (simp; done) | (simp only [← hji10] <;> (first | rfl | simp)) | (simp [*]; done)), H', ⟨by have := HK1.out; first | omega | exact Nat.le_refl _⟩, by repeat (first | exact Drawn0.refl _ | apply Drawn0.step)⟩
                  · rw [if_neg c9] at H
                    exact absurd H (by simp)
                · rw [if_neg c7] at H
                  have c7b0 : decide (64 < (wrap64 (x5_1 + 7))) = false := decide_eq_false c7
                  clear c7
                  have H' := Aside0.mk H
                  clear H
                  go_wp2
                  go_meet
                  case rel => exact ⟨_, (false), (by first | rfl | (simp; done) | (simp [*]; done)), H', ⟨by have := HK1.out; first | omega | exact Nat.le_refl _⟩, by repeat (first | exact Drawn0.refl _ | apply Drawn0.step)⟩
            case rest =>
              clear HC5
              try clear c1
              try clear p1
              try clear q1
              try clear hx1
              try clear c2
              try clear c2b0
              try clear c2b1
              try clear p2
              try clear c3
              try clear c3b0
              try clear c4
              try clear c4b0
              try clear c6
              try clear c6b0
              try clear p6
              try clear c7
              try clear c7b0
              try clear c9
              try clear c9b0
              try clear c9b1
              try clear hx162_0
              try clear p162
              try clear q162
              obtain ⟨kq, x29_4, rfl, HA, HJ4, ⟨mc4, rfl⟩⟩ := hcut
              cases kq with
              | zero => exact absurd HA.out (by simp [num_short.j1])
              | succ kj4 =>
                have H := HA.out
                clear HA
                simp only [num_short.j1] at H
                by_cases c11 : x29_4 = true
                · subst c11
                  have H1 : (some (0, 0, 4)) = some (r1, r2, r3) := by rw [if_pos rfl] at H; exact H
                  clear H
                  have H := H1
                  clear H1
                  simp only [Option.some.injEq, Prod.mk.injEq] at H
                  obtain ⟨rfl, rfl, rfl⟩ := H
                  go_wp2
                  go_ret3
                  exact ⟨by first | rfl | (simp; done) | (simp [*]; done), by repeat (first | exact Drawn0.refl _ | apply Drawn0.step)⟩
                · replace c11 := Bool.eq_false_iff.mpr c11
                  subst c11
                  have H1 : (if (rd l0 x3_1) = 0 then (num_short.j2 kj4 l0 x2_1 (wrap64 (x3_1 + 1)) x5_1 (rd l0 x3_1) (IntKind.u64.wrap (Go.bits .and .u8 (rd l0 x3_1) 127)) (decide ((wrap64 (x3_1 + 1)) > 1))) else (num_short.j2 kj4 l0 x2_1 (wrap64 (x3_1 + 1)) x5_1 (rd l0 x3_1) (IntKind.u64.wrap (Go.bits .and .u8 (rd l0 x3_1) 127)) false)) = some (r1, r2, r3) := by rw [if_neg (show ¬ (false = true) by decide)] at H; exact H
                  clear H
                  have H := H1
                  clear H1
                  have HC12 := Aside0.mk H
                  clear H
                  go_upto_region 12 with (fail)
                  go_cut [43] (fun v43 wc => ∃ (kq : Nat) (x43_11 : Bool), v43 = .bool x43_11 ∧ Aside0 (num_short.j2 kq l0 x2_1 (wrap64 (x3_1 + 1)) x5_1 (rd l0 x3_1) (IntKind.u64.wrap (Go.bits .and .u8 (rd l0 x3_1) 127)) x43_11 = some (r1, r2, r3)) ∧ Aside0 (kq ≤ kj4) ∧ Drawn0 w wc)
                  case first =>
                    have H := HC12.out
                    clear HC12
                    by_cases c13 : (rd l0 x3_1) = 0
                    · rw [if_pos c13] at H
                      have c13b0 : ((rd l0 x3_1) == 0) = true := beq_iff_eq.mpr c13
                      have c13b1 : ((rd l0 x3_1) != 0) = false := bne_eq_false_iff_eq.mpr c13
                      clear c13
                      (first | rw [c13b0] | (simp only [i64_w, i32_w]; rw [c13b0]) | skip)
                      have H' := Aside0.mk H
                      clear H
                      go_wp2
                      go_meet
                      case rel => exact ⟨_, (decide ((wrap64 (x3_1 + 1)) > 1)), (by first | rfl | (simp; done) | (simp [*]; done)), H', ⟨by have := HK1.out; have := HJ4.out; first | omega | exact Nat.le_refl _⟩, by repeat (first | exact Drawn0.refl _ | apply Drawn0.step)⟩
                    · rw [if_neg c13] at H
                      have c13b0 : ((rd l0 x3_1) == 0) = false := beq_eq_false_iff_ne.mpr c13
                      have c13b1 : ((rd l0 x3_1) != 0) = true := bne_iff_ne.mpr c13
                      (first | rw [c13b0] | (simp only [i64_w, i32_w]; rw [c13b0]) | skip)
                      have H' := Aside0.mk H
                      clear H
                      go_wp2
                      go_meet
                      case rel => exact ⟨_, (false), (by first | rfl | (simp; done) | (simp [*]; done)), H', ⟨by have := HK1.out; have := HJ4.out; first | omega | exact Nat.le_refl _⟩, by repeat (first | exact Drawn0.refl _ | apply Drawn0.step)⟩
                  case rest =>
                    clear HC12
                    try clear c1
                    try clear p1
                    try clear q1
                    try clear hx1
                    try clear c2
                    try clear c2b0
                    try clear c2b1
                    try clear p2
                    try clear c3
                    try clear c3b0
                    try clear c4
                    try clear c4b0
                    try clear c6
                    try clear c6b0
                    try clear p6
                    try clear c7
                    try clear c7b0
                    try clear c9
                    try clear c9b0
                    try clear c9b1
                    try clear c11
                    try clear c12
                    try clear c13
                    try clear c13b0
                    try clear c13b1
                    try clear hx162_0
                    try clear p1
                    try clear p162
                    try clear p2
                    try clear p6
                    try clear q1
                    try clear q162
                    obtain ⟨kq, x43_11, rfl, HA, HJ11, ⟨mc11, rfl⟩⟩ := hcut
                    cases kq with
                    | zero => exact absurd HA.out (by simp [num_short.j2])
                    | succ kj11 =>
                      have H := HA.out
                      clear HA
                      simp only [num_short.j2] at H
                      by_cases c14 : x43_11 = true
                      · subst c14
                        have H1 : (some (0, 0, 4)) = some (r1, r2, r3) := by rw [if_pos rfl] at H; exact H
                        clear H
                        have H := H1
                        clear H1
                        simp only [Option.some.injEq, Prod.mk.injEq] at H
                        obtain ⟨rfl, rfl, rfl⟩ := H
                        go_wp2
                        go_ret3
                        exact ⟨by first | rfl | (simp; done) | (simp [*]; done), by repeat (first | exact Drawn0.refl _ | apply Drawn0.step)⟩
                      · replace c14 := Bool.eq_false_iff.mpr c14
                        subst c14
                        have H1 : (if 0 ≤ (IntKind.u64.wrap (x5_1)) then (if (Go.bits .and .u8 (rd l0 x3_1) 128) = 0 then (some (Go.bits .or .u64 x2_1 (shl .u64 (IntKind.u64.wrap (Go.bits .and .u8 (rd l0 x3_1) 127)) (IntKind.u64.wrap (x5_1))), (wrap64 (x3_1 + 1)), 0)) else (num_short.l0 kj11 l0 (Go.bits .or .u64 x2_1 (shl .u64 (IntKind.u64.wrap (Go.bits .and .u8 (rd l0 x3_1) 127)) (IntKind.u64.wrap (x5_1)))) (wrap64 (x3_1 + 1)) (wrap64 (x5_1 + 7)))) else (none)) = some (r1, r2, r3) := by rw [if_neg (show ¬ (false = true) by decide)] at H; exact H
                        clear H
                        have H := H1
                        clear H1
                        obtain ⟨ji15, hji15⟩ : ∃ j_ : Int, (IntKind.u64.wrap (x5_1)) = j_ := ⟨_, rfl⟩
                        replace H : (if 0 ≤ (ji15) then (if (Go.bits .and .u8 (rd l0 x3_1) 128) = 0 then (some (Go.bits .or .u64 x2_1 (shl .u64 (IntKind.u64.wrap (Go.bits .and .u8 (rd l0 x3_1) 127)) (ji15)), (wrap64 (x3_1 + 1)), 0)) else (num_short.l0 kj11 l0 (Go.bits .or .u64 x2_1 (shl .u64 (IntKind.u64.wrap (Go.bits .and .u8 (rd l0 x3_1) 127)) (ji15))) (wrap64 (x3_1 + 1)) (wrap64 (x5_1 + 7)))) else (none)) = some (r1, r2, r3) := by first | (rw [hji15] at H; exact H) | (simp only [hji15] at H ⊢; exact H)
                        by_cases c16 : 0 ≤ (ji15)
                        · rw [if_pos c16] at H
                          have c16b0 := eq_true c16
                          have c16b1 : decide (0 ≤ (ji15)) = true := decide_eq_true c16
                          clear c16
                          obtain ⟨ji17, hji17⟩ : ∃ j_ : Int, (shl .u64 (IntKind.u64.wrap (Go.bits .and .u8 (rd l0 x3_1) 127)) (ji15)) = j_ := ⟨_, rfl⟩
                          replace H : (if (Go.bits .and .u8 (rd l0 x3_1) 128) = 0 then (some (Go.bits .or .u64 x2_1 (ji17), (wrap64 (x3_1 + 1)), 0)) else (num_short.l0 kj11 l0 (Go.bits .or .u64 x2_1 (ji17)) (wrap64 (x3_1 + 1)) (wrap64 (x5_1 + 7)))) = some (r1, r2, r3) := by first | (rw [hji17] at H; exact H) | (simp only [hji17] at H ⊢; exact H)
                          have hji17_ : (IntKind.u64.wrap ((IntKind.u64.wrap (Go.bits .and .u8 (rd l0 x3_1) 127)) * 2 ^ min (ji15).toNat 64)) = ji17 := hji17
                          have hji17z : (ji15) ≤ 64 → (IntKind.u64.wrap ((IntKind.u64.wrap (Go.bits .and .u8 (rd l0 x3_1) 127)) * 2 ^ (ji15).toNat)) = ji17 := shl_small hji17
                          by_cases c18 : (Go.bits .and .u8 (rd l0 x3_1) 128) = 0
                          · rw [if_pos c18] at H
                            have c18b0 : ((Go.bits .and .u8 (rd l0 x3_1) 128) == 0) = true := beq_iff_eq.mpr c18
                            have c18b1 : ((Go.bits .and .u8 (rd l0 x3_1) 128) != 0) = false := bne_eq_false_iff_eq.mpr c18
                            clear c18
                            simp only [Option.some.injEq, Prod.mk.injEq] at H
                            obtain ⟨rfl, rfl, rfl⟩ := H
                            go_wp2
                            go_ret3
                            exact ⟨by first | rfl | (simp; done) | (simp only [← hji15, ← hji17] <;> (first | rfl | simp)) | (simp [*]; done), by repeat (first | exact Drawn0.refl _ | apply Drawn0.step)⟩
                          · rw [if_neg c18] at H
                            have c18b0 : ((Go.bits .and .u8 (rd l0 x3_1) 128) == 0) = false := beq_eq_false_iff_ne.mpr c18
                            have c18b1 : ((Go.bits .and .u8 (rd l0 x3_1) 128) != 0) = true := bne_iff_ne.mpr c18
                            have H' := Aside0.mk H
                            clear H
                            go_wp2
                            go_roundg kj11
                            case measure => have := HK1.out; have := HJ4.out; have := HJ11.out; omega
                            case rel => exact ⟨(Go.bits .or .u64 x2_1 (ji17)), ((wrap64 (x3_1 + 1))), (wrap64 (x5_1 + 7)), (by first | rfl | (simp; done) | (simp only [← hji17] <;> (first | rfl | simp)) | (simp [*]; done)), (by first | rfl | (simp; done) | (simp [*]; done)), (by first | rfl | (simp; done) | (simp [*]; done)), H', ⟨by have := HK1.out; have := HJ4.out; have := HJ11.out; omega⟩, by repeat (first | exact Drawn0.refl _ | apply Drawn0.step)⟩
                        · rw [if_neg c16] at H
                          exact absurd H (by simp)
          · rw [if_neg c4] at H
            exact absurd H (by simp)
        · rw [if_neg c3] at H
          exact absurd H (by simp)
end Go.Proofs.YtjmhiklmlgbifaaGreatDoor.PMan
end
section
namespace Go.Proofs.YtjmhiklmlgbifaaGreatDoor.PMan
open Go.RowKit Go.Proofs.YtjmhiklmlgbifaaGreatDoorW.PrintWords Go.Proofs.YtjmhiklmlgbifaaGreatDoorW.PrintLast Go.Proofs.YtjmhiklmlgbifaaGreatDoorW.PrintMore
attribute [local go_sem] max2_int min2_int max_two min_two max_three min_three max_four min_four   -- for this text's walks alone
set_option linter.unusedVariables false
set_option linter.unusedSimpArgs false
set_option maxHeartbeats 1600000 in
set_option maxRecDepth 100000 in
theorem rd_var (k : Nat) (g : Nat) (s0 : List Int) (s1 : Int) (v n : Int) (w0 w : World) (hI : RD w0 w g s0 s1 0 0) (hB : Below w0.heap.size w0 w) (h0 : 0 ≤ s1) (h1 : s1 ≤ s0.length) (hn : wrap64 (s1 + n) = s1 + n) (hf : num_short.f k (s0.drop s1.toNat) = some (v, n, 0)) :
    Calls Tryz.prog 118 #[.pointer (some ⟨g, 0, none⟩)] w fun e w' => e = .returned (.int .u64 v) ∧ RD w0 w' g s0 (s1 + n) 0 0 ∧ Below w0.heap.size w0 w' ∧ KeepBut w w' g none := by
  have HI := Aside0.mk hI
  have HB := Aside0.mk hB
  have HF := Aside0.mk hf
  have HN := Aside0.mk hn
  obtain ⟨A, c, ev, k1, k2, k3, k4, k5⟩ := hI
  obtain ⟨i0, hi0, hz0⟩ := Option.map_eq_some_iff.1 clone_info
  simp only [Prod.mk.injEq] at hz0
  obtain ⟨A', hcut, hcr, hcl⟩ := print_cut_int (P := Tryz.prog) (k := .u8) 30 5 Tryz.underlying30 hi0 hz0.2.1 A c s0 s1 h0 h1 k4
  have hc0 := blk_cell k1 0
  have hc1 := blk_cell k1 1
  simp only [List.getElem?_toArray] at hc0 hc1
  have K1 := Aside0.mk k1
  have K2 := Aside0.mk k2
  have KR := Aside0.mk (show Kd.C (Kd.int .u8) w0 A' (s0.drop s1.toNat).length (s0.drop s1.toNat) from Kd.C_of_reads (d := (0 : Int)) (h1 := fun _ => rfl) (hcr w0 (Kd.reads_of_C k3)))
  have KC := Aside0.mk hcl
  clear hB hf hn k1 k2 k3 k4 k5 h0 h1 hcr hcl hz0 hi0
  generalize s0.drop s1.toNat = out at *
  go_enter Tryz.func118, Tryz.ntmps118
  go_wp2_with fail
  refine (rd_ok g s0 _ _ _ w0 _ HI.out).mono ?_
  rintro e w' ⟨rfl, rfl⟩
  go_wp2_with fail
  refine start_ (n := 17) (S := fun w' => w'.cell? ⟨g, 0, none⟩ = some (.slice A s0.length c) ∧ w'.cell? ⟨g, 1, none⟩ = some (.int .i64 s1)) (ds := []) #[false, false, false, false, false, false, false, false, false, false, false, false, false, false, false, false, false] (by kernel_rfl) rfl rfl ⟨hc0, hc1⟩ (fun hHeld => ?_)
  refine pure_ (i := 0) (N := some 10) (v := ?_) (a' := ?_) #[true, false, false, false, false, false, false, false, false, false, false, false, false, false, false, false, false] rfl rfl (by kernel_rfl) (fun _ _ _ h => h) (Or.inl ⟨by rfl, ?_⟩) ?_ ?_
  rotate_left
  · intro w'
    go_simp
    with_reducible rfl
  rotate_left
  · simp only [Act.put, List.setIfInBounds_toArray, List.set_cons_zero, List.set_cons_succ, i64_w, i32_w]
    rfl
  refine pure_ (i := 1) (N := some 11) (v := ?_) (a' := ?_) #[true, true, false, false, false, false, false, false, false, false, false, false, false, false, false, false, false] rfl rfl (by kernel_rfl) (fun _ _ _ h => h) (Or.inl ⟨by rfl, ?_⟩) ?_ ?_
  rotate_left
  · intro w'
    go_simp
    with_reducible rfl
  rotate_left
  · simp only [Act.put, List.setIfInBounds_toArray, List.set_cons_zero, List.set_cons_succ, i64_w, i32_w]
    rfl
  refine pure_ (i := 2) (N := some 12) (v := ?_) (a' := ?_) #[true, true, true, false, false, false, false, false, false, false, false, false, false, false, false, false, false] rfl rfl (by kernel_rfl) (fun _ _ _ h => h) (Or.inl ⟨by rfl, ?_⟩) ?_ ?_
  rotate_left
  · intro w'
    go_simp
    with_reducible rfl
  rotate_left
  · simp only [Act.put, List.setIfInBounds_toArray, List.set_cons_zero, List.set_cons_succ, i64_w, i32_w]
    rfl
  refine pure_ (i := 4) (N := some 14) (v := ?_) (a' := ?_) #[true, true, true, false, true, false, false, false, false, false, false, false, false, false, false, false, false] rfl rfl (by kernel_rfl) (fun _ _ _ h => h) (Or.inl ⟨by rfl, ?_⟩) ?_ ?_
  rotate_left
  · intro w'
    go_simp
    with_reducible rfl
  rotate_left
  · simp only [Act.put, List.setIfInBounds_toArray, List.set_cons_zero, List.set_cons_succ, i64_w, i32_w]
    rfl
  refine pure_ (i := 5) (N := some 15) (v := ?_) (a' := ?_) #[true, true, true, false, true, true, false, false, false, false, false, false, false, false, false, false, false] rfl rfl (by kernel_rfl) (fun _ _ _ h => h) (Or.inl ⟨by rfl, ?_⟩) ?_ ?_
  rotate_left
  · intro w'
    go_simp
    with_reducible rfl
  rotate_left
  · simp only [Act.put, List.setIfInBounds_toArray, List.set_cons_zero, List.set_cons_succ, i64_w, i32_w]
    rfl
  refine pure_ (i := 6) (N := some 16) (v := ?_) (a' := ?_) #[true, true, true, false, true, true, true, false, false, false, false, false, false, false, false, false, false] rfl rfl (by kernel_rfl) (fun _ _ _ h => h) (Or.inl ⟨by rfl, ?_⟩) ?_ ?_
  rotate_left
  · intro w'
    go_simp
    with_reducible rfl
  rotate_left
  · simp only [Act.put, List.setIfInBounds_toArray, List.set_cons_zero, List.set_cons_succ, i64_w, i32_w]
    rfl
  refine take_ (i := 3) (N := some 13) (v := ?_) (a' := ?_) #[true, true, true, true, true, true, true, false, false, false, false, false, false, false, false, false, false] rfl rfl (by kernel_rfl) (fun _ _ _ h => h) (Or.inl ⟨by rfl, ?_⟩) hHeld ?_ ?_
  rotate_left
  · rintro w' ⟨s0, s1⟩
    go_simp
    with_reducible rfl
  rotate_left
  · simp only [Act.put, List.setIfInBounds_toArray, List.set_cons_zero, List.set_cons_succ, i64_w, i32_w]
    rfl
  refine take_ (i := 7) (N := some 17) (v := ?_) (a' := ?_) #[true, true, true, true, true, true, true, true, false, false, false, false, false, false, false, false, false] rfl rfl (by kernel_rfl) (fun _ _ _ h => h) (Or.inl ⟨by rfl, ?_⟩) hHeld ?_ ?_
  rotate_left
  · rintro w' ⟨s0, s1⟩
    go_simp
    with_reducible rfl
  rotate_left
  · simp only [Act.put, List.setIfInBounds_toArray, List.set_cons_zero, List.set_cons_succ, i64_w, i32_w]
    rfl
  refine pure_ (i := 8) (N := some 18) (v := ?_) (a' := ?_) #[true, true, true, true, true, true, true, true, true, false, false, false, false, false, false, false, false] rfl rfl (by kernel_rfl) (fun _ _ _ h => h) (Or.inl ⟨by rfl, ?_⟩) ?_ ?_
  rotate_left
  · intro w'
    go_simp
    with_reducible rfl
  rotate_left
  · simp only [Act.put, List.setIfInBounds_toArray, List.set_cons_zero, List.set_cons_succ, i64_w, i32_w]
    rfl
  refine one_ (i := 9) (N := some 19) #[true, true, true, true, true, true, true, true, true, true, false, false, false, false, false, false, false] rfl rfl (by kernel_rfl) (by decide) (fun K hK => ?_)
  refine goes_ Tryz.func125 (by kernel_rfl) rfl #[.slice A' out.length (c - s1.toNat)] (by rfl) rfl rfl (by simp only [List.map_toArray, List.map_cons, List.map_nil]; rfl) ?_
  with_reducible refine (num_short.calls k A' (c - s1.toNat) out v n 0 w.drew (Kd.C_drew (Kd.C_below KR.out HB.out)) KC.out HF.out).mono ?_
  rintro e w' ⟨rfl, ⟨nd, rfl⟩⟩
  refine ⟨_, rfl, ?_⟩
  have hblk := blk_drewN (show w.drew.heap[g]? = _ from K1.out) nd
  have hc0 := blk_cell hblk 0
  have hc1 := blk_cell hblk 1
  simp only [List.getElem?_toArray] at hc0 hc1
  refine hK.out _ _ ⟨hc0, hc1⟩ (fun hHeld => ?_)
  clear hK K
  refine norm_ (a' := ?_) ?_ ?_
  rotate_left
  · show Act.put _ (some 19) _ = _
    simp only [Act.put, List.setIfInBounds_toArray, List.set_cons_zero, List.set_cons_succ, i64_w, i32_w]
    rfl
  refine pure_ (i := 10) (N := some 9) (v := ?_) (a' := ?_) #[true, true, true, true, true, true, true, true, true, true, true, false, false, false, false, false, false] rfl rfl (by kernel_rfl) (fun _ _ _ h => h) (Or.inl ⟨by rfl, ?_⟩) ?_ ?_
  rotate_left
  · intro w'
    go_simp
    with_reducible rfl
  rotate_left
  · simp only [Act.put, List.setIfInBounds_toArray, List.set_cons_zero, List.set_cons_succ, i64_w, i32_w]
    rfl
  refine pure_ (i := 11) (N := some 20) (v := ?_) (a' := ?_) #[true, true, true, true, true, true, true, true, true, true, true, true, false, false, false, false, false] rfl rfl (by kernel_rfl) (fun _ _ _ h => h) (Or.inl ⟨by rfl, ?_⟩) ?_ ?_
  rotate_left
  · intro w'
    go_simp
    with_reducible rfl
  rotate_left
  · simp only [Act.put, List.setIfInBounds_toArray, List.set_cons_zero, List.set_cons_succ, i64_w, i32_w]
    rfl
  refine pure_ (i := 12) (N := some 21) (v := ?_) (a' := ?_) #[true, true, true, true, true, true, true, true, true, true, true, true, true, false, false, false, false] rfl rfl (by kernel_rfl) (fun _ _ _ h => h) (Or.inl ⟨by rfl, ?_⟩) ?_ ?_
  rotate_left
  · intro w'
    go_simp
    with_reducible rfl
  rotate_left
  · simp only [Act.put, List.setIfInBounds_toArray, List.set_cons_zero, List.set_cons_succ, i64_w, i32_w]
    rfl
  refine pure_ (i := 13) (N := some 22) (v := ?_) (a' := ?_) #[true, true, true, true, true, true, true, true, true, true, true, true, true, true, false, false, false] rfl rfl (by kernel_rfl) (fun _ _ _ h => h) (Or.inl ⟨by rfl, ?_⟩) ?_ ?_
  rotate_left
  · intro w'
    go_simp
    with_reducible rfl
  rotate_left
  · simp only [Act.put, List.setIfInBounds_toArray, List.set_cons_zero, List.set_cons_succ, i64_w, i32_w]
    rfl
  refine pure_ (i := 14) (N := some 3) (v := ?_) (a' := ?_) #[true, true, true, true, true, true, true, true, true, true, true, true, true, true, true, false, false] rfl rfl (by kernel_rfl) (fun _ _ _ h => h) (Or.inl ⟨by rfl, ?_⟩) ?_ ?_
  rotate_left
  · intro w'
    go_simp
    with_reducible rfl
  rotate_left
  · simp only [Act.put, List.setIfInBounds_toArray, List.set_cons_zero, List.set_cons_succ, i64_w, i32_w]
    rfl
  refine pure_ (i := 15) (N := some 4) (v := ?_) (a' := ?_) #[true, true, true, true, true, true, true, true, true, true, true, true, true, true, true, true, false] rfl rfl (by kernel_rfl) (fun _ _ _ h => h) (Or.inl ⟨by rfl, ?_⟩) ?_ ?_
  rotate_left
  · intro w'
    go_simp
    with_reducible rfl
  rotate_left
  · simp only [Act.put, List.setIfInBounds_toArray, List.set_cons_zero, List.set_cons_succ, i64_w, i32_w]
    rfl
  refine pure_ (i := 16) (N := some 5) (v := ?_) (a' := ?_) #[true, true, true, true, true, true, true, true, true, true, true, true, true, true, true, true, true] rfl rfl (by kernel_rfl) (fun _ _ _ h => h) (Or.inl ⟨by rfl, ?_⟩) ?_ ?_
  rotate_left
  · intro w'
    go_simp
    with_reducible rfl
  rotate_left
  · simp only [Act.put, List.setIfInBounds_toArray, List.set_cons_zero, List.set_cons_succ, i64_w, i32_w]
    rfl
  refine done_ (by kernel_rfl) ?_
  have hblk2 := blk_drewN K1.out (1 + nd)
  have hd1 : (w.drewN (1 + nd)).cell? ⟨g, 1, none⟩ = some (.int .i64 s1) := blk_cell hblk2 1
  have hf1 := blk_frozen hblk2 1
  go_wp2_with fail
  refine (rd_fail_no g s0 _ _ _ 0 w0 _ (HI.out.drewN (1 + nd)) (.inr rfl)).mono ?_
  rintro e w' ⟨rfl, rfl⟩
  go_wp2
  go_ret
  rw [HN.out]
  have hrd := (HI.out.drewN (1 + nd)).set_at (s1 + n)
  exact ⟨rfl, hrd, HB.out.trans ((pw_below_drewN (Below.refl _ w) (1 + nd)).setCell K2.out _), (KeepBut.of_below (pw_below_drewN (Below.refl _ w) (1 + nd)) g none).set_ 1 _⟩
set_option maxHeartbeats 1600000 in
set_option maxRecDepth 100000 in
theorem rd_number (k : Nat) (g : Nat) (s0 : List Int) (s1 : Int) (v n : Int) (w0 w : World) (hI : RD w0 w g s0 s1 0 0) (hB : Below w0.heap.size w0 w) (h0 : 0 ≤ s1) (h1 : s1 ≤ s0.length) (hn : wrap64 (s1 + n) = s1 + n) (hf : num_short.f k (s0.drop s1.toNat) = some (v, n, 0)) (hv : 0 ≤ v) (hv2 : v ≤ 1099511627776) :
    Calls Tryz.prog 90 #[.pointer (some ⟨g, 0, none⟩)] w fun e w' => e = .returned (.int .i64 v) ∧ RD w0 w' g s0 (s1 + n) 0 0 ∧ Below w0.heap.size w0 w' ∧ KeepBut w w' g none := by
  have HI := Aside0.mk hI
  have HB := Aside0.mk hB
  have HF := Aside0.mk hf
  have HN := Aside0.mk hn
  have H0 := Aside0.mk h0
  have H1 := Aside0.mk h1
  have hw : wrap64 v = v := by unfold wrap64; omega
  have hd : ¬ (1099511627777 < v) := by omega
  have hd2 : v < 1099511627777 := by omega
  clear hI hB hf hn h0 h1
  go_enter Tryz.func90, Tryz.ntmps90
  go_wp2_with fail
  refine (rd_var k g s0 s1 v n w0 _ HI.out HB.out H0.out H1.out HN.out HF.out).mono ?_
  rintro e w' ⟨rfl, h1, h2, h3⟩
  have H := Aside0.mk (And.intro h1 (And.intro h2 h3))
  clear h1 h2 h3
  go_wp2

  go_ret
  exact ⟨by simp [hw], H.out⟩
set_option maxHeartbeats 1600000 in
set_option maxRecDepth 100000 in
theorem rd_good (g : Nat) (s0 : List Int) (s1 : Int) (w0 w : World) (hG : ErrT w) (hI : RD w0 w g s0 s1 0 0) :
    Calls Tryz.prog 120 #[.pointer (some ⟨g, 0, none⟩)] w fun e w' => e = .returned (.bool true) ∧ Below w.heap.size w w' := by
  have HI := Aside0.mk hI
  have HG := Aside0.mk hG
  clear hI hG
  go_enter Tryz.func120, Tryz.ntmps120
  go_wp2_with fail
  refine (rd_err g s0 s1 0 0 w0 w HG.out HI.out).mono ?_
  rintro e w' ⟨rfl, hb⟩
  have HB := Aside0.mk hb
  clear hb
  go_wp2
  go_ret
  exact ⟨rfl, HB.out⟩
set_option maxHeartbeats 1600000 in
set_option maxRecDepth 100000 in
theorem rd_end (g : Nat) (s0 : List Int) (s1 : Int) (w0 w : World) (hG : ErrT w) (hI : RD w0 w g s0 s1 0 0) (he : wrap64 ((s0.length : Int) - s1) = 0) :
    Calls Tryz.prog 96 #[.pointer (some ⟨g, 0, none⟩)] w fun e w' => e = .returned (.tuple #[.int .i64 0, .int .i64 0]) ∧ Below w.heap.size w w' := by
  have HI := Aside0.mk hI
  have HG := Aside0.mk hG
  have HE := Aside0.mk he
  clear hI hG he
  go_enter Tryz.func96, Tryz.ntmps96
  go_wp2_with fail
  refine (rd_err g s0 s1 0 0 w0 w HG.out HI.out).mono ?_
  rintro e w1 ⟨rfl, hb⟩
  have HB := Aside0.mk hb
  have HI1 := Aside0.mk (HI.out.below hb)
  clear hb
  go_wp2_with fail
  refine (rd_left g s0 s1 0 0 w0 w1 HI1.out).mono ?_
  rintro e w2 ⟨rfl, ⟨nd, rfl⟩⟩
  rw [HE.out]
  go_wp2
  go_ret2
  exact ⟨rfl, HB.out.trans ((pw_below_drewN (Below.refl _ w1) nd).mono HB.out.size)⟩
end Go.Proofs.YtjmhiklmlgbifaaGreatDoor.PMan
end
section
namespace Go.Proofs.YtjmhiklmlgbifaaGreatDoor.PMan
open Go.RowKit Go.Proofs.YtjmhiklmlgbifaaGreatDoorW.PrintWords Go.Proofs.YtjmhiklmlgbifaaGreatDoorW.PrintLast Go.Proofs.YtjmhiklmlgbifaaGreatDoorW.PrintMore
attribute [local go_sem] max2_int min2_int max_two min_two max_three min_three max_four min_four   -- for this text's walks alone
set_option linter.unusedVariables false
set_option linter.unusedSimpArgs false
theorem m_within0 (w : World) : Calls Tryz.prog 44 #[.int .i64 0, .int .i64 0, .int .i64 1099511627776] w fun e w' => e = .returned (.bool true) ∧ Drawn0 w w' := manifest_within.calls 0 0 1099511627776 true w (by decide +kernel)
theorem m_within1 (w : World) : Calls Tryz.prog 44 #[.int .i64 1, .int .i64 1, .int .i64 65536] w fun e w' => e = .returned (.bool true) ∧ Drawn0 w w' := manifest_within.calls 1 1 65536 true w (by decide +kernel)
set_option maxHeartbeats 4000000 in
set_option maxRecDepth 100000 in
theorem m_check (s cs e ce : Nat) (w : World) (hM : ManP w s cs e ce) : Calls Tryz.prog 13 #[ManV s cs e ce] w fun ev w' => ev = .returned (.int .i64 0) ∧ Below w.heap.size w w' := by
  have HM := Aside0.mk hM
  clear hM
  unfold ManV
  go_enter Tryz.func13, Tryz.ntmps13
  go_wp2_with fail
  have hx0 : (w.alloc (.cells #[.int .i64 0, .int .i64 0, .slice (some ⟨s, 0, none⟩) 1 cs, .int .i64 1, .slice none 0 0, .slice none 0 0, .slice (some ⟨e, 0, none⟩) 1 ce] 27)).heap[w.heap.size]? = some (.cells #[.int .i64 0, .int .i64 0, .slice (some ⟨s, 0, none⟩) 1 cs, .int .i64 1, .slice none 0 0, .slice none 0 0, .slice (some ⟨e, 0, none⟩) 1 ce] 27 (0, 0)) := heap_alloc_new w _
  have hb0 : Below w.heap.size w (w.alloc (.cells #[.int .i64 0, .int .i64 0, .slice (some ⟨s, 0, none⟩) 1 cs, .int .i64 1, .slice none 0 0, .slice none 0 0, .slice (some ⟨e, 0, none⟩) 1 ce] 27)) := below_alloc (Below.refl _ _) _
  have HX := Aside0.mk hx0
  have HB0 := Aside0.mk hb0
  have HM0 := Aside0.mk (HM.out.below hb0)
  clear hx0 hb0
  generalize w.alloc (.cells #[.int .i64 0, .int .i64 0, .slice (some ⟨s, 0, none⟩) 1 cs, .int .i64 1, .slice none 0 0, .slice none 0 0, .slice (some ⟨e, 0, none⟩) 1 ce] 27) = W0 at *
  refine (value_Schema.calls 5 (some ⟨s, 0, none⟩) cs [⟨1, false, -1⟩] 0 W0 HM0.out.2.2.1 HM0.out.1 (by kernel_rfl)).mono ?_
  rintro ev w1 ⟨rfl, hb⟩
  have HB1 := Aside0.mk hb
  clear hb
  have hx := (HB1.out.block _ (blk_lt HX.out)).trans HX.out
  have HX := Aside0.mk hx
  have q0 : w1.cell? ⟨w.heap.size, 0, none⟩ = some (.int .i64 0) := blk_cell hx 0
  have q1 : w1.cell? ⟨w.heap.size, 1, none⟩ = some (.int .i64 0) := blk_cell hx 1
  have q2 : w1.cell? ⟨w.heap.size, 2, none⟩ = some (.slice (some ⟨s, 0, none⟩) 1 cs) := blk_cell hx 2
  have q3 : w1.cell? ⟨w.heap.size, 3, none⟩ = some (.int .i64 1) := blk_cell hx 3
  have q4 : w1.cell? ⟨w.heap.size, 4, none⟩ = some (.slice none 0 0) := blk_cell hx 4
  have q5 : w1.cell? ⟨w.heap.size, 5, none⟩ = some (.slice none 0 0) := blk_cell hx 5
  have q6 : w1.cell? ⟨w.heap.size, 6, none⟩ = some (.slice (some ⟨e, 0, none⟩) 1 ce) := blk_cell hx 6
  clear hx
  go_wp2_with (first | (go_at_call 44; (with_reducible refine (m_within0 _).mono ?_); rintro ev w' ⟨rfl, ⟨nd, rfl⟩⟩) | (go_at_call 44; (with_reducible refine (m_within1 _).mono ?_); rintro ev w' ⟨rfl, ⟨nd, rfl⟩⟩))
  refine (m_groups s cs e ce _).mono ?_
  rintro ev w2 ⟨rfl, hb⟩
  have HB2 := Aside0.mk (show Below w1.heap.size w1 w2 from (pw_below_drewN (Below.refl _ _) _).trans hb)
  clear hb
  clear q0 q1 q2 q3 q4 q5 q6
  have hx := (HB2.out.block _ (blk_lt HX.out)).trans HX.out
  have HX := Aside0.mk hx
  have q0 : w2.cell? ⟨w.heap.size, 0, none⟩ = some (.int .i64 0) := blk_cell hx 0
  have q1 : w2.cell? ⟨w.heap.size, 1, none⟩ = some (.int .i64 0) := blk_cell hx 1
  have q2 : w2.cell? ⟨w.heap.size, 2, none⟩ = some (.slice (some ⟨s, 0, none⟩) 1 cs) := blk_cell hx 2
  have q3 : w2.cell? ⟨w.heap.size, 3, none⟩ = some (.int .i64 1) := blk_cell hx 3
  have q4 : w2.cell? ⟨w.heap.size, 4, none⟩ = some (.slice none 0 0) := blk_cell hx 4
  have q5 : w2.cell? ⟨w.heap.size, 5, none⟩ = some (.slice none 0 0) := blk_cell hx 5
  have q6 : w2.cell? ⟨w.heap.size, 6, none⟩ = some (.slice (some ⟨e, 0, none⟩) 1 ce) := blk_cell hx 6
  clear hx
  have HM2 := Aside0.mk ((HM0.out.below HB1.out).below HB2.out)
  go_wp2_with fail
  refine wp_loop_rounds 1 ?_
  rw [rounds_succ]
  go_wp2_with fail
  refine (led_new _).mono ?_
  rintro ev w3 ⟨g, rfl, hg, hgs, hb⟩
  have HG := Aside0.mk hg
  have HGS := Aside0.mk hgs
  have HB3 := Aside0.mk hb
  clear hg hgs hb
  clear q0 q1 q2 q3 q4 q5 q6
  have hx := (HB3.out.block _ (blk_lt HX.out)).trans HX.out
  have HX := Aside0.mk hx
  have q0 : w3.cell? ⟨w.heap.size, 0, none⟩ = some (.int .i64 0) := blk_cell hx 0
  have q1 : w3.cell? ⟨w.heap.size, 1, none⟩ = some (.int .i64 0) := blk_cell hx 1
  have q2 : w3.cell? ⟨w.heap.size, 2, none⟩ = some (.slice (some ⟨s, 0, none⟩) 1 cs) := blk_cell hx 2
  have q3 : w3.cell? ⟨w.heap.size, 3, none⟩ = some (.int .i64 1) := blk_cell hx 3
  have q4 : w3.cell? ⟨w.heap.size, 4, none⟩ = some (.slice none 0 0) := blk_cell hx 4
  have q5 : w3.cell? ⟨w.heap.size, 5, none⟩ = some (.slice none 0 0) := blk_cell hx 5
  have q6 : w3.cell? ⟨w.heap.size, 6, none⟩ = some (.slice (some ⟨e, 0, none⟩) 1 ce) := blk_cell hx 6
  clear hx
  have HM3 := Aside0.mk (HM2.out.below HB3.out)
  go_wp2_with fail
  refine wp_loop_rounds 2 ?_
  rw [rounds_succ]
  have he := HM3.out.2.2.2
  have hone : Tryz.zeroCells81.all (·.oneCell') = true := by kernel_rfl
  go_wp2_with (first | (refine wpList_load_mid rfl 81 (.tmp 71) rfl e 0 rfl Tryz.zeroCells81.toList _ HM3.out.2.2.2 Tryz.underlying81 rfl (by kernel_rfl) ?_) | (refine wpList_store_row rfl 81 (.tmp 10) (.tmp 72) rfl w3.heap.size Tryz.zeroCells81 rfl rfl 81 Tryz.zeroCells81 (heap_alloc_new w3 _) (by rw [ents_size]; kernel_rfl) rfl hone ?_; rw [World.setRow_alloc_new]) | (refine wpList_load_row rfl 81 (.tmp 10) rfl w3.heap.size rfl 81 Tryz.zeroCells81 (0, 0) _ (heap_alloc_new w3 _) Tryz.underlying81 rfl (by rw [ents_size]; kernel_rfl) ?_))
  have hga : (w3.alloc (.cells Tryz.zeroCells81 81)).heap[g]? = some (.cells #[.slice none 0 0] 137 (0, 0)) := ((below_alloc (Below.refl w3.heap.size w3) _).block _ (blk_lt HG.out)).trans HG.out
  refine (led_add g _ hga).mono ?_
  rintro ev w4 ⟨rfl, hb⟩
  have HB4 := Aside0.mk (((below_alloc (Below.refl w3.heap.size w3) (.cells Tryz.zeroCells81 81)).mono (Nat.le_of_lt (blk_lt HG.out))).trans hb)
  clear hb hga
  go_wp2_with fail
  rw [rounds_succ]
  go_wp2_with fail
  go_ret
  have z0 := HB0.out.size
  have z1 := HB1.out.size
  have z2 := HB2.out.size
  have z3 := HGS.out
  exact ⟨rfl, HB0.out.trans ((HB1.out.mono z0).trans ((HB2.out.mono (by omega)).trans ((HB3.out.mono (by omega)).trans (HB4.out.mono (by omega)))))⟩
end Go.Proofs.YtjmhiklmlgbifaaGreatDoor.PMan
end

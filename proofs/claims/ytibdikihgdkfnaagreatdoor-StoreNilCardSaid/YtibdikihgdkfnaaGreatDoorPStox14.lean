-- Printed for this claim by a program of this session's own (it runs the kit's print another way): Lean checks it.
import Derived.Test.YtibdikihgdkfnaaGreatDoorPStox0
import Derived.Test.YtibdikihgdkfnaaGreatDoorPStox12
import Derived.Test.YtibdikihgdkfnaaGreatDoorPStox13
namespace Go.Proofs.YtibdikihgdkfnaaGreatDoor.PSto
open Go.RowKit Go.Proofs.YtibdikihgdkfnaaGreatDoorW.PrintWords Go.Proofs.YtibdikihgdkfnaaGreatDoorW.PrintLast Go.Proofs.YtibdikihgdkfnaaGreatDoorW.PrintMore
attribute [local go_sem] max2_int min2_int max_two min_two max_three min_three max_four min_four   -- for this text's walks alone
set_option linter.unusedVariables false
set_option linter.unusedSimpArgs false

/-! ### num_Reader_Err: function 199 -/
theorem ErrT.of_keep {w W : World} {tb : Nat} (h : ErrT w) (hk : KeepBut w W tb none) (hne : 0 ≠ tb) : ErrT W :=
  (World.cell?_of_block (w := w) (hk.2 _ h.lt hne (by simp))).trans h
/-- The same, told by blocks: the variable's block is set; nothing else that was turns. -/
theorem as_setF (e : Addr) (tb : Nat) (old : Value) (w : World) (hg : ErrT w) (ht : w.heap[tb]? = some (.cells #[old] 313 (0, 0))) :
    Calls Tryz.prog 55 #[.iface 313 (.pointer (some e)), .iface 344 (.pointer (some ⟨tb, 0, none⟩))] w fun ev w' => ev = .returned (.bool true) ∧ w'.heap[tb]? = some (.cells #[.pointer (some e)] 313 (0, 0)) ∧ KeepBut w w' tb none ∧ Below tb w w' := by
  refine (as_hitF e ⟨tb, 0, none⟩ old w hg (blk_cell ht 0) (blk_frozen ht 0)).mono ?_
  rintro ev w' ⟨rfl, rfl⟩
  have hl := blk_lt ht
  have b0 : Below w.heap.size w _ := below_alloc (below_alloc (below_alloc (below_alloc (Below.refl _ w) (.cells #[.pointer (some ⟨tb, 0, none⟩)] 344)) (.cells #[.pointer (some ⟨6, 344, none⟩), .pointer (some ⟨w.heap.size, 0, none⟩), .int .u64 150] 180)) (.cells #[.pointer (some ⟨6, 344, none⟩), .pointer (some ⟨w.heap.size, 0, none⟩), .int .u64 150] 180)) (.cells #[.pointer (some e)] 313)
  have b1 := (b0.block tb hl).trans ht
  refine ⟨rfl, by simpa using blk_set b1 0 (.pointer (some e)), (KeepBut.of_below b0 tb none).set_ 0 _, ?_⟩
  exact (b0.mono (Nat.le_of_lt hl)).setCell (Nat.le_refl _) _
/-- The same, told by blocks: the variable's block is set; nothing else that was turns. -/
theorem as_setC (h : Nat) (p c : Int) (tb : Nat) (old : Value) (w : World) (hg : ErrT w) (hh : w.heap[h]? = some (.cells #[.int .i64 p, .iface 31 (.int .i64 c)] 315 (0, 0))) (ht : w.heap[tb]? = some (.cells #[old] 31 (0, 0))) :
    Calls Tryz.prog 55 #[.iface 313 (.pointer (some ⟨h, 0, none⟩)), .iface 345 (.pointer (some ⟨tb, 0, none⟩))] w fun ev w' => ev = .returned (.bool true) ∧ w'.heap[tb]? = some (.cells #[.int .i64 c] 31 (0, 0)) ∧ KeepBut w w' tb none ∧ Below tb w w' := by
  refine (as_hitC h p c ⟨tb, 0, none⟩ old w hg hh (blk_cell ht 0) (blk_frozen ht 0)).mono ?_
  rintro ev w' ⟨rfl, rfl⟩
  have hl := blk_lt ht
  have b0 : Below w.heap.size w _ := below_alloc (below_alloc (below_alloc (below_alloc (Below.refl _ w) (.cells #[.pointer (some ⟨tb, 0, none⟩)] 345)) (.cells #[.pointer (some ⟨6, 345, none⟩), .pointer (some ⟨w.heap.size, 0, none⟩), .int .u64 150] 180)) (.cells #[.pointer (some ⟨6, 345, none⟩), .pointer (some ⟨w.heap.size, 0, none⟩), .int .u64 150] 180)) (.cells #[.int .i64 c] 31)
  have b1 := (b0.block tb hl).trans ht
  refine ⟨rfl, by simpa using blk_set b1 0 (.int .i64 c), (KeepBut.of_below b0 tb none).set_ 0 _, ?_⟩
  exact (b0.mono (Nat.le_of_lt hl)).setCell (Nat.le_refl _) _
set_option maxHeartbeats 1600000 in
set_option maxRecDepth 100000 in
/-- r.Err(): the error's code and its place. -/
theorem rd_err (g : Nat) (s0 : List Int) (s1 s2 s3 : Int) (w0 w : World) (hg : ErrT w) (hI : RD w0 w g s0 s1 s2 s3) :
    Calls Tryz.prog 199 #[.pointer (some ⟨g, 0, none⟩)] w fun e w' => e = .returned (.tuple #[.int .i64 s2, .int .i64 s3]) ∧ Below w.heap.size w w' := by
  have hgl := hI.lt
  obtain ⟨A, c, ev, h1, h2, h3, h4, h5⟩ := hI
  have hc := blk_cell h1 2
  simp only [List.getElem?_toArray] at hc
  have HG := Aside0.mk hg
  clear hg h2 h3 h4
  rcases h5 with ⟨rfl, rfl, rfl⟩ | ⟨hne, k, _, rfl, hk⟩
  · have H1 := Aside0.mk h1
    clear h1
    go_enter Tryz.func199, Tryz.ntmps199
    go_wp2_with fail
    refine (as_nil _ _).mono ?_
    rintro e w' ⟨rfl, rfl⟩
    go_wp2
    refine bodyPost_ret (v := .tuple #[.int .i64 0, .int .i64 0]) ?_ rfl ⟨rfl, ?_⟩
    · simp [results, Tryz.results199, go_sem]
    · exact below_alloc (below_alloc (Below.refl _ w) _) _
  · have H1 := Aside0.mk h1
    have HK := Aside0.mk hk
    clear h1 hk
    go_enter Tryz.func199, Tryz.ntmps199
    have hb1 := heap_alloc2_new w (.cells #[.int .i64 0] 31) (.cells #[.pointer none] 313)
    have hb0 := heap_alloc2_old w (.cells #[.int .i64 0] 31) (.cells #[.pointer none] 313)
    have hk1 := (below_alloc (below_alloc (Below.refl _ w) (.cells #[.int .i64 0] 31)) (.cells #[.pointer none] 313)).block k (blk_lt HK.out)
    rw [HK.out] at hk1
    have HB0 := Aside0.mk hb0
    have HK1 := Aside0.mk hk1
    clear hb0 hk1
    have hgl1 : ErrT ((w.alloc (.cells #[.int .i64 0] 31)).alloc (.cells #[.pointer none] 313)) := HG.out.below (below_alloc (below_alloc (Below.refl _ w) _) _)
    have HB1 := Aside0.mk hb1
    have HGL := Aside0.mk hgl1
    clear hb1 hgl1
    go_wp2_with fail
    refine (as_setF ⟨k, 0, none⟩ (w.heap.size + 1) (.pointer none) _ HGL.out HB1.out).mono ?_
    rintro e w2 ⟨rfl, t1, t2, t3⟩
    have hsz : w.heap.size + 2 ≤ w2.heap.size := by have := t2.1; simp at this; omega
    have u0 := (t2.2 w.heap.size (by simp <;> omega) (by omega) (by simp)).trans HB0.out
    have uk := (t2.2 k (by have := blk_lt HK.out; simp <;> omega) (by have := blk_lt HK.out; omega) (by simp)).trans HK1.out
    have ug : ErrT w2 := HGL.out.of_keep t2 (by have := HG.out.lt; omega)
    have ub : Below w.heap.size w w2 := (below_alloc (below_alloc (Below.refl _ w) _) _).trans (t3.mono (by omega))
    have c1 := blk_cell t1 0
    simp only [List.getElem?_toArray] at c1
    have T1 := Aside0.mk t1
    have U0 := Aside0.mk u0
    have UK := Aside0.mk uk
    have UG := Aside0.mk ug
    have UB := Aside0.mk ub
    have HSZ := Aside0.mk hsz
    clear t1 t2 t3 u0 uk ug ub hsz HB0 HK1 HB1 HGL
    go_wp2_with fail
    refine (as_setC k s3 s2 w.heap.size (.int .i64 0) _ UG.out UK.out U0.out).mono ?_
    rintro e w3 ⟨rfl, t1, t2, t3⟩
    have x0 := (t2.2 (w.heap.size + 1) (by have := HSZ.out; omega) (by omega) (by simp)).trans T1.out
    have xk := (t2.2 k (by have := HSZ.out; have := blk_lt HK.out; omega) (by have := blk_lt HK.out; omega) (by simp)).trans UK.out
    have ub : Below w.heap.size w w3 := UB.out.trans (t3.mono (Nat.le_refl _))
    have d0 := blk_cell t1 0
    have d1 := blk_cell x0 0
    have dk := blk_cell xk 0
    have f0 := blk_frozen t1 0
    simp only [List.getElem?_toArray] at d0 d1 dk
    have T0 := Aside0.mk t1
    have UB3 := Aside0.mk ub
    clear t1 t2 t3 x0 xk ub c1 hc
    go_wp2_with fail
    go_region
    go_wp2
    have y0 := blk_cell (blk_set T0.out 0 (.int .i64 s2)) 0
    simp only [List.setIfInBounds_toArray, List.set_cons_zero, List.getElem?_toArray] at y0
    refine bodyPost_ret (v := .tuple #[.int .i64 s2, .int .i64 s3]) ?_ rfl ⟨rfl, ?_⟩
    · simp [results, Tryz.results199, go_sem, y0]
    · exact below_drew (UB3.out.setCell (Nat.le_refl _) _)
def num_Reader_Err.f (s0 : List Int) (s1 s2 s3 : Int) : Option (Int × Int × Int × Int × Int) := some (s2, s3, s1, s2, s3)
theorem num_Reader_Err.calls (g : Nat) (s0 : List Int) (s1 s2 s3 : Int) (r1 r2 r3 r4 r5 : Int) (w0 w : World) (hI : RD w0 w g s0 s1 s2 s3) (hB : Below w0.heap.size w0 w) (hG : ErrT w0) (h : num_Reader_Err.f s0 s1 s2 s3 = some (r1, r2, r3, r4, r5)) :
    Calls Tryz.prog 199 #[.pointer (some ⟨g, 0, none⟩)] w fun e w' => e = .returned (.tuple #[.int .i64 r1, .int .i64 r2]) ∧ RD w0 w' g s0 r3 r4 r5 ∧ Below w0.heap.size w0 w' ∧ KeepBut w w' g none := by
  simp only [num_Reader_Err.f, Option.some.injEq, Prod.mk.injEq] at h
  obtain ⟨rfl, rfl, rfl, rfl, rfl⟩ := h
  refine (rd_err g s0 s1 s2 s3 w0 w (hG.of_below hB) hI).mono ?_
  rintro e w' ⟨rfl, hb⟩
  exact ⟨rfl, hI.below hb, below_then hB hB.size hb, KeepBut.of_below hb g none⟩

/-! ### num_Reader_Left: function 214 -/
def num_Reader_Left.f (s0 : List Int) (s1 s2 s3 : Int) : Option (Int × Int × Int × Int) := some (wrap64 ((s0.length : Int) - s1), s1, s2, s3)
set_option maxHeartbeats 800000 in
set_option maxRecDepth 100000 in
/-- r.Left(): nothing turns but what is drawn. -/
theorem rd_left (g : Nat) (s0 : List Int) (s1 s2 s3 : Int) (w0 w : World) (hI : RD w0 w g s0 s1 s2 s3) :
    Calls Tryz.prog 214 #[.pointer (some ⟨g, 0, none⟩)] w fun e w' => e = .returned (.int .i64 (wrap64 ((s0.length : Int) - s1))) ∧ Drawn0 w w' := by
  obtain ⟨A, c, ev, h1, h2, h3, h4, h5⟩ := hI
  have hc0 := blk_cell h1 0
  have hc1 := blk_cell h1 1
  simp only [List.getElem?_toArray] at hc0 hc1
  have HM := Aside0.mk h5
  have H3 := Aside0.mk h3
  clear h5 h3
  go_enter Tryz.func214, Tryz.ntmps214
  go_wp2
  go_quiet (fail)
  go_wp2
  go_ret
  exact ⟨rfl, by repeat (first | exact Drawn0.refl _ | apply Drawn0.step)⟩
theorem num_Reader_Left.calls (g : Nat) (s0 : List Int) (s1 s2 s3 : Int) (r1 r2 r3 r4 : Int) (w0 w : World) (hI : RD w0 w g s0 s1 s2 s3) (hB : Below w0.heap.size w0 w) (h : num_Reader_Left.f s0 s1 s2 s3 = some (r1, r2, r3, r4)) :
    Calls Tryz.prog 214 #[.pointer (some ⟨g, 0, none⟩)] w fun e w' => e = .returned (.int .i64 r1) ∧ RD w0 w' g s0 r2 r3 r4 ∧ Below w0.heap.size w0 w' ∧ KeepBut w w' g none := by
  simp only [num_Reader_Left.f, Option.some.injEq, Prod.mk.injEq] at h
  obtain ⟨rfl, rfl, rfl, rfl⟩ := h
  refine (rd_left g s0 s1 s2 s3 w0 w hI).mono ?_
  rintro e w' ⟨rfl, hd⟩
  exact ⟨rfl, hI.below hd.below, below_then hB hB.size hd.below, KeepBut.of_below hd.below g none⟩

-- NOT PRINTED: function 167 (num_Reader_End)

/-! ### num_Reader_ok: function 207 -/
def num_Reader_ok.f (s0 : List Int) (s1 s2 s3 : Int) : Option (Bool × Int × Int × Int) := some (s2 == 0, s1, s2, s3)
set_option maxHeartbeats 800000 in
set_option maxRecDepth 100000 in
/-- r.ok(): nothing turns. -/
theorem rd_ok (g : Nat) (s0 : List Int) (s1 s2 s3 : Int) (w0 w : World) (hI : RD w0 w g s0 s1 s2 s3) :
    Calls Tryz.prog 207 #[.pointer (some ⟨g, 0, none⟩)] w fun e w' => e = .returned (.bool (s2 == 0)) ∧ w = w' := by
  obtain ⟨A, c, ev, h1, h2, h3, h4, h5⟩ := hI
  have hc := blk_cell h1 2
  simp only [List.getElem?_toArray] at hc
  rcases h5 with ⟨rfl, rfl, rfl⟩ | ⟨hne, k, _, rfl, hk⟩
  · go_enter Tryz.func207, Tryz.ntmps207
    go_wp2
    go_ret
    exact ⟨rfl, rfl⟩
  · have hf : (s2 == 0) = false := by simpa using hne
    go_enter Tryz.func207, Tryz.ntmps207
    go_wp2
    go_ret
    exact ⟨by rw [hf]; rfl, rfl⟩
theorem num_Reader_ok.calls (g : Nat) (s0 : List Int) (s1 s2 s3 : Int) (r1 : Bool) (r2 r3 r4 : Int) (w0 w : World) (hI : RD w0 w g s0 s1 s2 s3) (hB : Below w0.heap.size w0 w) (h : num_Reader_ok.f s0 s1 s2 s3 = some (r1, r2, r3, r4)) :
    Calls Tryz.prog 207 #[.pointer (some ⟨g, 0, none⟩)] w fun e w' => e = .returned (.bool r1) ∧ RD w0 w' g s0 r2 r3 r4 ∧ Below w0.heap.size w0 w' ∧ KeepBut w w' g none := by
  simp only [num_Reader_ok.f, Option.some.injEq, Prod.mk.injEq] at h
  obtain ⟨rfl, rfl, rfl, rfl⟩ := h
  refine (rd_ok g s0 s1 s2 s3 w0 w hI).mono ?_
  rintro e w' ⟨rfl, rfl⟩
  exact ⟨rfl, hI, hB, KeepBut.refl _ _ _⟩

/-! ### num_Reader_Fail: function 166 -/
def num_Reader_Fail.f (s0 : List Int) (s1 s2 s3 : Int) (a1 : Int) : Option (Int × Int × Int) := some (if s2 = 0 then (if a1 = 0 then (s1, s2, s3) else (s1, a1, s1)) else (s1, s2, s3))
set_option maxHeartbeats 800000 in
set_option maxRecDepth 100000 in
theorem rd_fail_no (g : Nat) (s0 : List Int) (s1 s2 s3 a1 : Int) (w0 w : World) (hI : RD w0 w g s0 s1 s2 s3) (hn : s2 ≠ 0 ∨ a1 = 0) :
    Calls Tryz.prog 166 #[.pointer (some ⟨g, 0, none⟩), .int .i64 a1] w fun e w' => e = .returned (.tuple #[]) ∧ w = w' := by
  have HI := Aside0.mk hI
  clear hI
  by_cases h : s2 = 0
  · have h1 : a1 = 0 := by omega
    subst h h1
    go_enter Tryz.func166, Tryz.ntmps166
    go_wp2_with fail
    refine (rd_ok g s0 _ _ _ w0 _ HI.out).mono ?_
    rintro e w' ⟨rfl, rfl⟩
    go_wp2
    go_end0
    exact ⟨rfl, rfl⟩
  · have hf := beq_eq_false_iff_ne.2 h
    clear hn
    go_enter Tryz.func166, Tryz.ntmps166
    go_wp2_with fail
    refine (rd_ok g s0 _ _ _ w0 _ HI.out).mono ?_
    rintro e w' ⟨rfl, rfl⟩
    go_wp2
    go_end0
    exact ⟨rfl, rfl⟩
theorem rd_fail_yes (g : Nat) (s0 : List Int) (s1 s3 a1 : Int) (w0 w : World) (hI : RD w0 w g s0 s1 0 s3) (hn : a1 ≠ 0) :
    Calls Tryz.prog 166 #[.pointer (some ⟨g, 0, none⟩), .int .i64 a1] w fun e w' => e = .returned (.tuple #[]) ∧ RD w0 w' g s0 s1 a1 s1 ∧ KeepBut w w' g none ∧ Below w0.heap.size w w' := by
  have HI := Aside0.mk hI
  have hf := beq_eq_false_iff_ne.2 hn
  have hf' : (a1 != 0) = true := by simpa using hn
  obtain ⟨A, c, ev, h1, h2, h3, h4, h5⟩ := hI
  have hc1 := blk_cell h1 1
  have hc2 := blk_cell h1 2
  simp only [List.getElem?_toArray] at hc1 hc2
  have hlt := blk_lt h1
  have hx1 := fun (o : Obj) => (World.cell?_alloc_lt w o ⟨g, 2, none⟩ hlt).trans hc2
  have hx2 := fun (o : Obj) => (World.frozen?_alloc_old w o ⟨g, 2, none⟩ (Nat.ne_of_lt hlt)).trans (blk_frozen h1 2)
  have H1 := Aside0.mk h1
  have H2 := Aside0.mk h2
  have H3 := Aside0.mk h3
  have H4 := Aside0.mk h4
  clear h5 h3 h1 h2 h4 hlt hc2
  go_enter Tryz.func166, Tryz.ntmps166
  go_wp2_with fail
  refine (rd_ok g s0 _ _ _ w0 _ HI.out).mono ?_
  rintro e w' ⟨rfl, rfl⟩
  go_wp2
  go_end0
  refine ⟨rfl, ?_, ?_, ?_⟩
  · refine ⟨A, c, _, by simpa using blk_set ((heap_alloc_old w _ (blk_lt H1.out)).trans H1.out) 2 _, H2.out, H3.out, H4.out, .inr ⟨hn, w.heap.size, ?_, rfl, ?_⟩⟩
    · have := blk_lt H1.out
      have := H2.out
      omega
    · rw [Below.heap_setCell _ _ _ _ (by have := blk_lt H1.out; show w.heap.size ≠ g; omega)]
      exact heap_alloc_new w _
  · exact (KeepBut.below_ (KeepBut.refl w g none) (below_alloc (Below.refl _ _) _)).set_ 2 _
  · exact ((Below.refl _ w).alloc (Nat.le_of_lt (Nat.lt_of_le_of_lt H2.out (blk_lt H1.out))) _).setCell H2.out _
theorem num_Reader_Fail.calls (g : Nat) (s0 : List Int) (s1 s2 s3 : Int) (a1 : Int) (r1 r2 r3 : Int) (w0 w : World) (hI : RD w0 w g s0 s1 s2 s3) (hB : Below w0.heap.size w0 w) (h : num_Reader_Fail.f s0 s1 s2 s3 a1 = some (r1, r2, r3)) :
    Calls Tryz.prog 166 #[.pointer (some ⟨g, 0, none⟩), .int .i64 a1] w fun e w' => e = .returned (.tuple #[]) ∧ RD w0 w' g s0 r1 r2 r3 ∧ Below w0.heap.size w0 w' ∧ KeepBut w w' g none := by
  unfold num_Reader_Fail.f at h
  have h := Option.some.inj h
  by_cases h2 : s2 = 0
  · by_cases ha : a1 = 0
    · rw [if_pos h2, if_pos ha] at h
      injection h with e1 e2
      injection e2 with e2 e3
      subst e1 e2 e3
      refine (rd_fail_no g s0 s1 s2 s3 a1 w0 w hI (.inr ha)).mono ?_
      rintro e w' ⟨rfl, rfl⟩
      exact ⟨rfl, hI, hB, KeepBut.refl _ _ _⟩
    · rw [if_pos h2, if_neg ha] at h
      injection h with e1 e2
      injection e2 with e2 e3
      subst e1 e2 e3 h2
      refine (rd_fail_yes g s0 s1 s3 a1 w0 w hI ha).mono ?_
      rintro e w' ⟨rfl, h1, h2, h3⟩
      exact ⟨rfl, h1, hB.trans h3, h2⟩
  · rw [if_neg h2] at h
    injection h with e1 e2
    injection e2 with e2 e3
    subst e1 e2 e3
    refine (rd_fail_no g s0 s1 s2 s3 a1 w0 w hI (.inl h2)).mono ?_
    rintro e w' ⟨rfl, rfl⟩
    exact ⟨rfl, hI, hB, KeepBut.refl _ _ _⟩

end Go.Proofs.YtibdikihgdkfnaaGreatDoor.PSto

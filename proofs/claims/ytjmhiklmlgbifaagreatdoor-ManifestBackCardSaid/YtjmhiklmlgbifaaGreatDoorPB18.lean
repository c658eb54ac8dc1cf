/- Texts of this proof, put into one, without what it does not use: PManx11, PManx12, PManx13. -/
import Derived.Test.YtjmhiklmlgbifaaGreatDoorPB4
import Derived.Test.YtjmhiklmlgbifaaGreatDoorPB16
import Derived.Test.YtjmhiklmlgbifaaGreatDoorPB17
section
namespace Go.Proofs.YtjmhiklmlgbifaaGreatDoor.PMan
open Go.RowKit Go.Proofs.YtjmhiklmlgbifaaGreatDoorW.PrintWords Go.Proofs.YtjmhiklmlgbifaaGreatDoorW.PrintLast Go.Proofs.YtjmhiklmlgbifaaGreatDoorW.PrintMore
attribute [local go_sem] max2_int min2_int max_two min_two max_three min_three max_four min_four   -- for this text's walks alone
set_option linter.unusedVariables false
set_option linter.unusedSimpArgs false
theorem ErrT.of_keep {w W : World} {tb : Nat} (h : ErrT w) (hk : KeepBut w W tb none) (hne : 0 ≠ tb) : ErrT W :=
  (World.cell?_of_block (w := w) (hk.2 _ h.lt hne (by simp))).trans h
/-- The same, told by blocks: the variable's block is set; nothing else that was turns. -/
theorem as_setF (e : Addr) (tb : Nat) (old : Value) (w : World) (hg : ErrT w) (ht : w.heap[tb]? = some (.cells #[old] 179 (0, 0))) :
    Calls Tryz.prog 117 #[.iface 179 (.pointer (some e)), .iface 181 (.pointer (some ⟨tb, 0, none⟩))] w fun ev w' => ev = .returned (.bool true) ∧ w'.heap[tb]? = some (.cells #[.pointer (some e)] 179 (0, 0)) ∧ KeepBut w w' tb none ∧ Below tb w w' := by
  refine (as_hitF e ⟨tb, 0, none⟩ old w hg (blk_cell ht 0) (blk_frozen ht 0)).mono ?_
  rintro ev w' ⟨rfl, rfl⟩
  have hl := blk_lt ht
  have b0 : Below w.heap.size w _ := below_alloc (below_alloc (below_alloc (below_alloc (Below.refl _ w) (.cells #[.pointer (some ⟨tb, 0, none⟩)] 181)) (.cells #[.pointer (some ⟨4, 181, none⟩), .pointer (some ⟨w.heap.size, 0, none⟩), .int .u64 150] 214)) (.cells #[.pointer (some ⟨4, 181, none⟩), .pointer (some ⟨w.heap.size, 0, none⟩), .int .u64 150] 214)) (.cells #[.pointer (some e)] 179)
  have b1 := (b0.block tb hl).trans ht
  refine ⟨rfl, by simpa using blk_set b1 0 (.pointer (some e)), (KeepBut.of_below b0 tb none).set_ 0 _, ?_⟩
  exact (b0.mono (Nat.le_of_lt hl)).setCell (Nat.le_refl _) _
/-- The same, told by blocks: the variable's block is set; nothing else that was turns. -/
theorem as_setC (h : Nat) (p c : Int) (tb : Nat) (old : Value) (w : World) (hg : ErrT w) (hh : w.heap[h]? = some (.cells #[.int .i64 p, .iface 31 (.int .i64 c)] 184 (0, 0))) (ht : w.heap[tb]? = some (.cells #[old] 31 (0, 0))) :
    Calls Tryz.prog 117 #[.iface 179 (.pointer (some ⟨h, 0, none⟩)), .iface 182 (.pointer (some ⟨tb, 0, none⟩))] w fun ev w' => ev = .returned (.bool true) ∧ w'.heap[tb]? = some (.cells #[.int .i64 c] 31 (0, 0)) ∧ KeepBut w w' tb none ∧ Below tb w w' := by
  refine (as_hitC h p c ⟨tb, 0, none⟩ old w hg hh (blk_cell ht 0) (blk_frozen ht 0)).mono ?_
  rintro ev w' ⟨rfl, rfl⟩
  have hl := blk_lt ht
  have b0 : Below w.heap.size w _ := below_alloc (below_alloc (below_alloc (below_alloc (Below.refl _ w) (.cells #[.pointer (some ⟨tb, 0, none⟩)] 182)) (.cells #[.pointer (some ⟨4, 182, none⟩), .pointer (some ⟨w.heap.size, 0, none⟩), .int .u64 150] 214)) (.cells #[.pointer (some ⟨4, 182, none⟩), .pointer (some ⟨w.heap.size, 0, none⟩), .int .u64 150] 214)) (.cells #[.int .i64 c] 31)
  have b1 := (b0.block tb hl).trans ht
  refine ⟨rfl, by simpa using blk_set b1 0 (.int .i64 c), (KeepBut.of_below b0 tb none).set_ 0 _, ?_⟩
  exact (b0.mono (Nat.le_of_lt hl)).setCell (Nat.le_refl _) _
set_option maxHeartbeats 1600000 in
set_option maxRecDepth 100000 in
/-- r.Err(): the error's code and its place. -/
theorem rd_err (g : Nat) (s0 : List Int) (s1 s2 s3 : Int) (w0 w : World) (hg : ErrT w) (hI : RD w0 w g s0 s1 s2 s3) :
    Calls Tryz.prog 89 #[.pointer (some ⟨g, 0, none⟩)] w fun e w' => e = .returned (.tuple #[.int .i64 s2, .int .i64 s3]) ∧ Below w.heap.size w w' := by
  have hgl := hI.lt
  obtain ⟨A, c, ev, h1, h2, h3, h4, h5⟩ := hI
  have hc := blk_cell h1 2
  simp only [List.getElem?_toArray] at hc
  have HG := Aside0.mk hg
  clear hg h2 h3 h4
  rcases h5 with ⟨rfl, rfl, rfl⟩ | ⟨hne, k, _, rfl, hk⟩
  · have H1 := Aside0.mk h1
    clear h1
    go_enter Tryz.func89, Tryz.ntmps89
    go_wp2_with fail
    refine (as_nil _ _).mono ?_
    rintro e w' ⟨rfl, rfl⟩
    go_wp2
    refine bodyPost_ret (v := .tuple #[.int .i64 0, .int .i64 0]) ?_ rfl ⟨rfl, ?_⟩
    · simp [results, Tryz.results89, go_sem]
    · exact below_alloc (below_alloc (Below.refl _ w) _) _
  · have H1 := Aside0.mk h1
    have HK := Aside0.mk hk
    clear h1 hk
    go_enter Tryz.func89, Tryz.ntmps89
    have hb1 := heap_alloc2_new w (.cells #[.int .i64 0] 31) (.cells #[.pointer none] 179)
    have hb0 := heap_alloc2_old w (.cells #[.int .i64 0] 31) (.cells #[.pointer none] 179)
    have hk1 := (below_alloc (below_alloc (Below.refl _ w) (.cells #[.int .i64 0] 31)) (.cells #[.pointer none] 179)).block k (blk_lt HK.out)
    rw [HK.out] at hk1
    have HB0 := Aside0.mk hb0
    have HK1 := Aside0.mk hk1
    clear hb0 hk1
    have hgl1 : ErrT ((w.alloc (.cells #[.int .i64 0] 31)).alloc (.cells #[.pointer none] 179)) := HG.out.below (below_alloc (below_alloc (Below.refl _ w) _) _)
    have HB1 := Aside0.mk hb1
    have HGL := Aside0.mk hgl1
    clear hb1 hgl1
    go_wp2_with fail
    refine (as_setF ⟨k, 0, none⟩ (w.heap.size + 1) (.pointer none) _ HGL.out HB1.out).mono ?_
    rintro e w2 ⟨rfl, t1, t2, t3⟩
    have hsz : w.heap.size + 2 ≤ w2.heap.size := by have := t2.1; simp at this; omega
    have u0 := (t2.2 w.heap.size (by simp <;> omega) (by omega) (by simp)).trans HB0.out
    have uk := (t2.2 k (by have := blk_lt HK.out; simp <;> omega) (by have := blk_lt HK.out; omega) (by simp)).trans HK1.out
    have ug : ErrT w2 := HGL.out.of_keep t2 (by have := HG.out.lt; omega)
    have ub : Below w.heap.size w w2 := (below_alloc (below_alloc (Below.refl _ w) _) _).trans (t3.mono (by omega))
    have c1 := blk_cell t1 0
    simp only [List.getElem?_toArray] at c1
    have T1 := Aside0.mk t1
    have U0 := Aside0.mk u0
    have UK := Aside0.mk uk
    have UG := Aside0.mk ug
    have UB := Aside0.mk ub
    have HSZ := Aside0.mk hsz
    clear t1 t2 t3 u0 uk ug ub hsz HB0 HK1 HB1 HGL
    go_wp2_with fail
    refine (as_setC k s3 s2 w.heap.size (.int .i64 0) _ UG.out UK.out U0.out).mono ?_
    rintro e w3 ⟨rfl, t1, t2, t3⟩
    have x0 := (t2.2 (w.heap.size + 1) (by have := HSZ.out; omega) (by omega) (by simp)).trans T1.out
    have xk := (t2.2 k (by have := HSZ.out; have := blk_lt HK.out; omega) (by have := blk_lt HK.out; omega) (by simp)).trans UK.out
    have ub : Below w.heap.size w w3 := UB.out.trans (t3.mono (Nat.le_refl _))
    have d0 := blk_cell t1 0
    have d1 := blk_cell x0 0
    have dk := blk_cell xk 0
    have f0 := blk_frozen t1 0
    simp only [List.getElem?_toArray] at d0 d1 dk
    have T0 := Aside0.mk t1
    have UB3 := Aside0.mk ub
    clear t1 t2 t3 x0 xk ub c1 hc
    go_wp2_with fail
    go_region
    go_wp2
    have y0 := blk_cell (blk_set T0.out 0 (.int .i64 s2)) 0
    simp only [List.setIfInBounds_toArray, List.set_cons_zero, List.getElem?_toArray] at y0
    refine bodyPost_ret (v := .tuple #[.int .i64 s2, .int .i64 s3]) ?_ rfl ⟨rfl, ?_⟩
    · simp [results, Tryz.results89, go_sem, y0]
    · exact below_drew (UB3.out.setCell (Nat.le_refl _) _)
set_option maxHeartbeats 800000 in
set_option maxRecDepth 100000 in
/-- r.ok(): nothing turns. -/
theorem rd_ok (g : Nat) (s0 : List Int) (s1 s2 s3 : Int) (w0 w : World) (hI : RD w0 w g s0 s1 s2 s3) :
    Calls Tryz.prog 124 #[.pointer (some ⟨g, 0, none⟩)] w fun e w' => e = .returned (.bool (s2 == 0)) ∧ w = w' := by
  obtain ⟨A, c, ev, h1, h2, h3, h4, h5⟩ := hI
  have hc := blk_cell h1 2
  simp only [List.getElem?_toArray] at hc
  rcases h5 with ⟨rfl, rfl, rfl⟩ | ⟨hne, k, _, rfl, hk⟩
  · go_enter Tryz.func124, Tryz.ntmps124
    go_wp2
    go_ret
    exact ⟨rfl, rfl⟩
  · have hf : (s2 == 0) = false := by simpa using hne
    go_enter Tryz.func124, Tryz.ntmps124
    go_wp2
    go_ret
    exact ⟨by rw [hf]; rfl, rfl⟩
def num_Reader_Fail.f (s0 : List Int) (s1 s2 s3 : Int) (a1 : Int) : Option (Int × Int × Int) := some (if s2 = 0 then (if a1 = 0 then (s1, s2, s3) else (s1, a1, s1)) else (s1, s2, s3))
set_option maxHeartbeats 800000 in
set_option maxRecDepth 100000 in
theorem rd_fail_no (g : Nat) (s0 : List Int) (s1 s2 s3 a1 : Int) (w0 w : World) (hI : RD w0 w g s0 s1 s2 s3) (hn : s2 ≠ 0 ∨ a1 = 0) :
    Calls Tryz.prog 119 #[.pointer (some ⟨g, 0, none⟩), .int .i64 a1] w fun e w' => e = .returned (.tuple #[]) ∧ w = w' := by
  have HI := Aside0.mk hI
  clear hI
  by_cases h : s2 = 0
  · have h1 : a1 = 0 := by omega
    subst h h1
    go_enter Tryz.func119, Tryz.ntmps119
    go_wp2_with fail
    refine (rd_ok g s0 _ _ _ w0 _ HI.out).mono ?_
    rintro e w' ⟨rfl, rfl⟩
    go_wp2
    go_end0
    exact ⟨rfl, rfl⟩
  · have hf := beq_eq_false_iff_ne.2 h
    clear hn
    go_enter Tryz.func119, Tryz.ntmps119
    go_wp2_with fail
    refine (rd_ok g s0 _ _ _ w0 _ HI.out).mono ?_
    rintro e w' ⟨rfl, rfl⟩
    go_wp2
    go_end0
    exact ⟨rfl, rfl⟩
theorem rd_fail_yes (g : Nat) (s0 : List Int) (s1 s3 a1 : Int) (w0 w : World) (hI : RD w0 w g s0 s1 0 s3) (hn : a1 ≠ 0) :
    Calls Tryz.prog 119 #[.pointer (some ⟨g, 0, none⟩), .int .i64 a1] w fun e w' => e = .returned (.tuple #[]) ∧ RD w0 w' g s0 s1 a1 s1 ∧ KeepBut w w' g none ∧ Below w0.heap.size w w' := by
  have HI := Aside0.mk hI
  have hf := beq_eq_false_iff_ne.2 hn
  have hf' : (a1 != 0) = true := by simpa using hn
  obtain ⟨A, c, ev, h1, h2, h3, h4, h5⟩ := hI
  have hc1 := blk_cell h1 1
  have hc2 := blk_cell h1 2
  simp only [List.getElem?_toArray] at hc1 hc2
  have hlt := blk_lt h1
  have hx1 := fun (o : Obj) => (World.cell?_alloc_lt w o ⟨g, 2, none⟩ hlt).trans hc2
  have hx2 := fun (o : Obj) => (World.frozen?_alloc_old w o ⟨g, 2, none⟩ (Nat.ne_of_lt hlt)).trans (blk_frozen h1 2)
  have H1 := Aside0.mk h1
  have H2 := Aside0.mk h2
  have H3 := Aside0.mk h3
  have H4 := Aside0.mk h4
  clear h5 h3 h1 h2 h4 hlt hc2
  go_enter Tryz.func119, Tryz.ntmps119
  go_wp2_with fail
  refine (rd_ok g s0 _ _ _ w0 _ HI.out).mono ?_
  rintro e w' ⟨rfl, rfl⟩
  go_wp2
  go_end0
  refine ⟨rfl, ?_, ?_, ?_⟩
  · refine ⟨A, c, _, by simpa using blk_set ((heap_alloc_old w _ (blk_lt H1.out)).trans H1.out) 2 _, H2.out, H3.out, H4.out, .inr ⟨hn, w.heap.size, ?_, rfl, ?_⟩⟩
    · have := blk_lt H1.out
      have := H2.out
      omega
    · rw [Below.heap_setCell _ _ _ _ (by have := blk_lt H1.out; show w.heap.size ≠ g; omega)]
      exact heap_alloc_new w _
  · exact (KeepBut.below_ (KeepBut.refl w g none) (below_alloc (Below.refl _ _) _)).set_ 2 _
  · exact ((Below.refl _ w).alloc (Nat.le_of_lt (Nat.lt_of_le_of_lt H2.out (blk_lt H1.out))) _).setCell H2.out _
theorem num_Reader_Fail.calls (g : Nat) (s0 : List Int) (s1 s2 s3 : Int) (a1 : Int) (r1 r2 r3 : Int) (w0 w : World) (hI : RD w0 w g s0 s1 s2 s3) (hB : Below w0.heap.size w0 w) (h : num_Reader_Fail.f s0 s1 s2 s3 a1 = some (r1, r2, r3)) :
    Calls Tryz.prog 119 #[.pointer (some ⟨g, 0, none⟩), .int .i64 a1] w fun e w' => e = .returned (.tuple #[]) ∧ RD w0 w' g s0 r1 r2 r3 ∧ Below w0.heap.size w0 w' ∧ KeepBut w w' g none := by
  unfold num_Reader_Fail.f at h
  have h := Option.some.inj h
  by_cases h2 : s2 = 0
  · by_cases ha : a1 = 0
    · rw [if_pos h2, if_pos ha] at h
      injection h with e1 e2
      injection e2 with e2 e3
      subst e1 e2 e3
      refine (rd_fail_no g s0 s1 s2 s3 a1 w0 w hI (.inr ha)).mono ?_
      rintro e w' ⟨rfl, rfl⟩
      exact ⟨rfl, hI, hB, KeepBut.refl _ _ _⟩
    · rw [if_pos h2, if_neg ha] at h
      injection h with e1 e2
      injection e2 with e2 e3
      subst e1 e2 e3 h2
      refine (rd_fail_yes g s0 s1 s3 a1 w0 w hI ha).mono ?_
      rintro e w' ⟨rfl, h1, h2, h3⟩
      exact ⟨rfl, h1, hB.trans h3, h2⟩
  · rw [if_neg h2] at h
    injection h with e1 e2
    injection e2 with e2 e3
    subst e1 e2 e3
    refine (rd_fail_no g s0 s1 s2 s3 a1 w0 w hI (.inl h2)).mono ?_
    rintro e w' ⟨rfl, rfl⟩
    exact ⟨rfl, hI, hB, KeepBut.refl _ _ _⟩
set_option maxHeartbeats 800000 in
set_option maxRecDepth 100000 in
/-- r.Left(): nothing turns but what is drawn. -/
theorem rd_left (g : Nat) (s0 : List Int) (s1 s2 s3 : Int) (w0 w : World) (hI : RD w0 w g s0 s1 s2 s3) :
    Calls Tryz.prog 126 #[.pointer (some ⟨g, 0, none⟩)] w fun e w' => e = .returned (.int .i64 (wrap64 ((s0.length : Int) - s1))) ∧ Drawn0 w w' := by
  obtain ⟨A, c, ev, h1, h2, h3, h4, h5⟩ := hI
  have hc0 := blk_cell h1 0
  have hc1 := blk_cell h1 1
  simp only [List.getElem?_toArray] at hc0 hc1
  have HM := Aside0.mk h5
  have H3 := Aside0.mk h3
  clear h5 h3
  go_enter Tryz.func126, Tryz.ntmps126
  go_wp2
  go_quiet (fail)
  go_wp2
  go_ret
  exact ⟨rfl, by repeat (first | exact Drawn0.refl _ | apply Drawn0.step)⟩
end Go.Proofs.YtjmhiklmlgbifaaGreatDoor.PMan
end
section
namespace Go.Proofs.YtjmhiklmlgbifaaGreatDoor.PMan
open Go.RowKit Go.Proofs.YtjmhiklmlgbifaaGreatDoorW.PrintWords Go.Proofs.YtjmhiklmlgbifaaGreatDoorW.PrintLast Go.Proofs.YtjmhiklmlgbifaaGreatDoorW.PrintMore
attribute [local go_sem] max2_int min2_int max_two min_two max_three min_three max_four min_four   -- for this text's walks alone
set_option linter.unusedVariables false
set_option linter.unusedSimpArgs false
/-- r.Take(n): the bytes, and what becomes of the reader. -/
def num_Reader_Take.f (s0 : List Int) (s1 s2 s3 : Int) (a1 : Int) : Option (List Int × Int × Int × Int) :=
  if s2 = 0 then
    if a1 < 0 then some ([], s1, 1, s1)
    else if 0 ≤ s1 then
      if s1 ≤ (s0.length : Int) then
        if (s0.length : Int) - s1 < a1 then some ([], s1, 2, s1)
        else if s0.length < 140737488355328 then some ((s0.take (s1 + a1).toNat).drop s1.toNat, s1 + a1, 0, s3) else none
      else none
    else none
  else some ([], s1, s2, s3)
set_option maxHeartbeats 800000 in
set_option maxRecDepth 100000 in
theorem rd_take_err (g : Nat) (s0 : List Int) (s1 s2 s3 a1 : Int) (w0 w : World) (hI : RD w0 w g s0 s1 s2 s3) (hn : s2 ≠ 0) :
    Calls Tryz.prog 127 #[.pointer (some ⟨g, 0, none⟩), .int .i64 a1] w fun e w' => e = .returned (.slice none 0 0) ∧ w = w' := by
  have HI := Aside0.mk hI
  have hf := beq_eq_false_iff_ne.2 hn
  clear hI hn
  go_enter Tryz.func127, Tryz.ntmps127
  go_wp2_with fail
  refine (rd_ok g s0 _ _ _ w0 _ HI.out).mono ?_
  rintro e w' ⟨rfl, rfl⟩
  go_wp2
  go_ret
  exact ⟨rfl, rfl⟩
set_option maxHeartbeats 800000 in
set_option maxRecDepth 100000 in
theorem rd_take_neg (g : Nat) (s0 : List Int) (s1 s3 a1 : Int) (w0 w : World) (hI : RD w0 w g s0 s1 0 s3) (hn : a1 < 0) :
    Calls Tryz.prog 127 #[.pointer (some ⟨g, 0, none⟩), .int .i64 a1] w fun e w' => e = .returned (.slice none 0 0) ∧ RD w0 w' g s0 s1 1 s1 ∧ KeepBut w w' g none ∧ Below w0.heap.size w w' := by
  have HI := Aside0.mk hI
  clear hI
  go_enter Tryz.func127, Tryz.ntmps127
  go_wp2_with fail
  refine (rd_ok g s0 _ _ _ w0 _ HI.out).mono ?_
  rintro e w' ⟨rfl, rfl⟩
  go_wp2_with fail
  refine (rd_fail_yes g s0 s1 s3 1 w0 _ HI.out (by decide)).mono ?_
  rintro e w' ⟨rfl, h⟩
  have H := Aside0.mk h
  clear h
  go_wp2
  go_ret
  exact ⟨rfl, H.out⟩
set_option maxHeartbeats 800000 in
set_option maxRecDepth 100000 in
theorem rd_take_short (g : Nat) (s0 : List Int) (s1 s3 a1 : Int) (w0 w : World) (hI : RD w0 w g s0 s1 0 s3) (h0 : 0 ≤ s1) (h1 : s1 ≤ (s0.length : Int)) (hn : (s0.length : Int) - s1 < a1) :
    Calls Tryz.prog 127 #[.pointer (some ⟨g, 0, none⟩), .int .i64 a1] w fun e w' => e = .returned (.slice none 0 0) ∧ RD w0 w' g s0 s1 2 s1 ∧ KeepBut w w' g none ∧ Below w0.heap.size w w' := by
  have HI := Aside0.mk hI
  have hm : s0.length ≤ 9223372036854775807 := by obtain ⟨_, _, _, _, _, hc, _⟩ := hI; exact Kd.C_max hc
  have hw : wrap64 ((s0.length : Int) - s1) = (s0.length : Int) - s1 := by unfold wrap64; omega
  have ha : ¬ (a1 < 0) := by omega
  have HW := Aside0.mk hw
  clear hI hw hm h0 h1
  go_enter Tryz.func127, Tryz.ntmps127
  go_wp2_with fail
  refine (rd_ok g s0 _ _ _ w0 _ HI.out).mono ?_
  rintro e w' ⟨rfl, rfl⟩
  go_wp2_with fail
  refine (rd_left g s0 s1 0 s3 w0 _ HI.out).mono ?_
  rintro e w' ⟨rfl, ⟨nd, rfl⟩⟩
  rw [HW.out]
  go_wp2_with fail
  refine (rd_fail_yes g s0 s1 s3 2 w0 _ (HI.out.drewN nd) (by decide)).mono ?_
  rintro e w' ⟨rfl, h⟩
  have H := Aside0.mk h
  clear h
  go_wp2
  go_ret
  exact ⟨rfl, H.out.1, H.out.2.1, (Below.trans (pw_below_drewN (Below.refl _ w) nd) H.out.2.2)⟩
set_option maxHeartbeats 1600000 in
set_option maxRecDepth 100000 in
theorem rd_take_yes (g : Nat) (s0 : List Int) (s1 s3 a1 : Int) (w0 w : World) (hI : RD w0 w g s0 s1 0 s3) (h0 : 0 ≤ s1) (h1 : 0 ≤ a1) (h2 : a1 ≤ (s0.length : Int) - s1) (hl : s0.length < 140737488355328) (hB : Below w0.heap.size w0 w) :
    Calls Tryz.prog 127 #[.pointer (some ⟨g, 0, none⟩), .int .i64 a1] w fun e w' => ∃ v, e = .returned v ∧ Kd.R (Kd.int .u8) 5 w' w.heap.size (fun _ => True) v ((s0.take (s1 + a1).toNat).drop s1.toNat) ∧ RD w0 w' g s0 (s1 + a1) 0 s3 ∧ KeepBut w w' g none ∧ Below w0.heap.size w w' := by
  have HI := Aside0.mk hI
  have hw : wrap64 ((s0.length : Int) - s1) = (s0.length : Int) - s1 := by unfold wrap64; omega
  have hw2 : IntKind.i64.wrap (s1 + a1) = s1 + a1 := by rw [IntKind.wrap_i64]; omega
  have hw3 : IntKind.i64.wrap s1 = s1 := by rw [IntKind.wrap_i64]; omega
  have ha : ¬ (a1 < 0) := by omega
  have hx : ¬ ((s0.length : Int) - s1 < a1) := by omega
  have HW := Aside0.mk hw
  have HL := Aside0.mk hl
  have HB := Aside0.mk hB
  obtain ⟨A, c, ev, k1, k2, k3, k4, k5⟩ := hI
  obtain ⟨i0, hi0, hz0⟩ := Option.map_eq_some_iff.1 clone_info
  simp only [Prod.mk.injEq] at hz0
  obtain ⟨A', hcut, hcr, hcl⟩ := print_mid_int (P := Tryz.prog) (k := .u8) 30 5 Tryz.underlying30 hi0 hz0.2.1 A c s0 s1 (s1 + a1) h0 (by omega) (by omega) k4
  have hc0 := blk_cell k1 0
  have hc1 := blk_cell k1 1
  have hf1 := blk_frozen k1 1
  simp only [List.getElem?_toArray] at hc0 hc1
  have K1 := Aside0.mk k1
  have K2 := Aside0.mk k2
  have KR := Aside0.mk (Kd.C_of_reads (d := (0 : Int)) (h1 := fun _ => rfl) (hcr w0 (Kd.reads_of_C k3)))
  have KC := Aside0.mk hcl
  have HLN : Aside0 (((s0.take (s1 + a1).toNat).drop s1.toNat).length < 140737488355328) := ⟨by rw [List.length_drop, List.length_take]; omega⟩
  clear hw hl hB k1 k2 k3 k4 k5 h0 h1 h2 hcr hcl hz0 hi0
  generalize (s0.take (s1 + a1).toNat).drop s1.toNat = out at *
  go_enter Tryz.func127, Tryz.ntmps127
  go_wp2_with fail
  refine (rd_ok g s0 _ _ _ w0 _ HI.out).mono ?_
  rintro e w' ⟨rfl, rfl⟩
  go_wp2_with fail
  refine (rd_left g s0 s1 0 s3 w0 _ HI.out).mono ?_
  rintro e w' ⟨rfl, ⟨nd, rfl⟩⟩
  rw [HW.out]
  go_wp2_with fail
  have hblk := blk_set (blk_drewN K1.out nd) 1 (.int .i64 (s1 + a1))
  have hsz : w.heap.size ≤ ((w.drewN nd).setCell ⟨g, 1, none⟩ (.int .i64 (s1 + a1))).heap.size := by simp
  have hkb : KeepBut w ((w.drewN nd).setCell ⟨g, 1, none⟩ (.int .i64 (s1 + a1))) g none := (KeepBut.of_below (pw_below_drewN (Below.refl _ w) nd) g none).set_ 1 _
  have hbb : Below w0.heap.size w ((w.drewN nd).setCell ⟨g, 1, none⟩ (.int .i64 (s1 + a1))) := (pw_below_drewN (Below.refl _ w) nd).setCell K2.out _
  have hrd : RD w0 ((w.drewN nd).setCell ⟨g, 1, none⟩ (.int .i64 (s1 + a1))) g s0 (s1 + a1) 0 s3 := (HI.out.drewN nd).set_at _
  generalize (w.drewN nd).setCell ⟨g, 1, none⟩ (.int .i64 (s1 + a1)) = W1 at *
  have hc0 := blk_cell hblk 0
  have hc1 := blk_cell hblk 1
  simp only [List.setIfInBounds_toArray, List.set_cons_succ, List.set_cons_zero, List.getElem?_toArray] at hc0 hc1
  have HSZ := Aside0.mk hsz
  have HKB := Aside0.mk hkb
  have HBB := Aside0.mk hbb
  have HRD := Aside0.mk hrd
  clear hblk hsz hkb hbb hrd hf1
  refine wp_region_still_tail 15 (by kernel_rfl) (by kernel_rfl) ?_
  show wpStill _ _ W1.drew _ _ _
  simp only [List.take_succ_cons, List.take_zero, List.drop_succ_cons, List.drop_zero]
  iterate 15 still_step
  refine wpStill_nil ?_
  show wpList _ _ _ _ _ W1.drew
  go_wp2_with fail
  refine (bytes_Clone.calls A' (c - s1.toNat) out out _ (Kd.C_drew (Kd.C_below KR.out (HB.out.trans HBB.out))) KC.out (by unfold bytes_Clone.f; rw [if_pos HLN.out])).mono ?_
  rintro e w' ⟨v, rfl, hr, hb⟩
  have HR := Aside0.mk hr
  have HBW := Aside0.mk hb
  clear hr hb
  go_wp2
  go_ret
  refine ⟨_, rfl, ?_, HRD.out.drew.below HBW.out, KeepBut.below_ HKB.out (below_drew (Below.refl _ W1) |>.trans HBW.out), ?_⟩
  · exact Kd.R_lower HR.out HSZ.out
  · exact HBB.out.trans ((below_drew (Below.refl _ W1)).trans (HBW.out.mono (by have := HBB.out.size; have := HB.out.size; simp; omega)))
theorem num_Reader_Take.calls (g : Nat) (s0 : List Int) (s1 s2 s3 : Int) (a1 : Int) (r1 : List Int) (r2 r3 r4 : Int) (w0 w : World) (hI : RD w0 w g s0 s1 s2 s3) (hB : Below w0.heap.size w0 w) (h : num_Reader_Take.f s0 s1 s2 s3 a1 = some (r1, r2, r3, r4)) :
    Calls Tryz.prog 127 #[.pointer (some ⟨g, 0, none⟩), .int .i64 a1] w fun e w' => ∃ v0_ : Value, e = .returned v0_ ∧ Kd.R (Kd.int .u8) 5 w' w.heap.size (fun _ => True) v0_ r1 ∧ RD w0 w' g s0 r2 r3 r4 ∧ Below w0.heap.size w0 w' ∧ KeepBut w w' g none := by
  unfold num_Reader_Take.f at h
  by_cases h2 : s2 = 0
  · rw [if_pos h2] at h
    subst h2
    by_cases hn : a1 < 0
    · rw [if_pos hn] at h
      have h := Option.some.inj h
      simp only [Prod.mk.injEq] at h
      obtain ⟨rfl, rfl, rfl, rfl⟩ := h
      refine (rd_take_neg g s0 _ s3 a1 w0 w hI hn).mono ?_
      rintro e w' ⟨rfl, h1, h2, h3⟩
      exact ⟨_, rfl, Kd.R_nil _ _ _ _ _, h1, hB.trans h3, h2⟩
    · rw [if_neg hn] at h
      by_cases h0 : 0 ≤ s1
      · rw [if_pos h0] at h
        by_cases h1 : s1 ≤ (s0.length : Int)
        · rw [if_pos h1] at h
          by_cases hs : (s0.length : Int) - s1 < a1
          · rw [if_pos hs] at h
            have h := Option.some.inj h
            simp only [Prod.mk.injEq] at h
            obtain ⟨rfl, rfl, rfl, rfl⟩ := h
            refine (rd_take_short g s0 _ s3 a1 w0 w hI h0 h1 hs).mono ?_
            rintro e w' ⟨rfl, h1, h2, h3⟩
            exact ⟨_, rfl, Kd.R_nil _ _ _ _ _, h1, hB.trans h3, h2⟩
          · rw [if_neg hs] at h
            by_cases hl : s0.length < 140737488355328
            · rw [if_pos hl] at h
              have h := Option.some.inj h
              simp only [Prod.mk.injEq] at h
              obtain ⟨rfl, rfl, rfl, rfl⟩ := h
              refine (rd_take_yes g s0 s1 _ a1 w0 w hI h0 (by omega) (by omega) hl hB).mono ?_
              rintro e w' ⟨v, rfl, hr, h1, h2, h3⟩
              exact ⟨v, rfl, hr, h1, hB.trans h3, h2⟩
            · rw [if_neg hl] at h
              cases h
        · rw [if_neg h1] at h
          cases h
      · rw [if_neg h0] at h
        cases h
  · rw [if_neg h2] at h
    have h := Option.some.inj h
    simp only [Prod.mk.injEq] at h
    obtain ⟨rfl, rfl, rfl, rfl⟩ := h
    refine (rd_take_err g s0 _ _ _ a1 w0 w hI h2).mono ?_
    rintro e w' ⟨rfl, rfl⟩
    exact ⟨_, rfl, Kd.R_nil _ _ _ _ _, hI, hB, KeepBut.refl _ _ _⟩
end Go.Proofs.YtjmhiklmlgbifaaGreatDoor.PMan
end
section
namespace Go.Proofs.YtjmhiklmlgbifaaGreatDoor.PMan
open Go.RowKit Go.Proofs.YtjmhiklmlgbifaaGreatDoorW.PrintWords Go.Proofs.YtjmhiklmlgbifaaGreatDoorW.PrintLast Go.Proofs.YtjmhiklmlgbifaaGreatDoorW.PrintMore
attribute [local go_sem] max2_int min2_int max_two min_two max_three min_three max_four min_four   -- for this text's walks alone
set_option linter.unusedVariables false
set_option linter.unusedSimpArgs false
def fixv : List Int → Option Int
  | [] => some 0
  | [a] => some (Go.bits .or .u64 0 (IntKind.u64.wrap a))
  | [a, b, c, d] => some (Go.bits .or .u64 (Go.bits .or .u64 (Go.bits .or .u64 (Go.bits .or .u64 0 (IntKind.u64.wrap (IntKind.u64.wrap d * 16777216))) (IntKind.u64.wrap (IntKind.u64.wrap c * 65536))) (IntKind.u64.wrap (IntKind.u64.wrap b * 256))) (IntKind.u64.wrap a))
  | _ => none
/-- r.Fix(n), n 1 or 4. -/
def num_Reader_Fix.f (s0 : List Int) (s1 s2 s3 : Int) (a1 : Int) : Option (Int × Int × Int × Int) :=
  if a1 = 1 ∨ a1 = 4 then (num_Reader_Take.f s0 s1 s2 s3 a1).bind fun r => (fixv r.1).bind fun v => some (v, r.2) else none
set_option maxHeartbeats 1600000 in
set_option maxRecDepth 100000 in
theorem rd_fix_0 (n : Nat) (hn : n = 1 ∨ n = 4) (g : Nat) (s0 : List Int) (s1 s2 s3 : Int) (v : Int) (r2 r3 r4 : Int) (w0 w : World) (hI : RD w0 w g s0 s1 s2 s3) (hB : Below w0.heap.size w0 w) (h : num_Reader_Take.f s0 s1 s2 s3 n = some ([], r2, r3, r4)) (hv : fixv [] = some v) :
    Calls Tryz.prog 116 #[.pointer (some ⟨g, 0, none⟩), .int .i64 n] w fun e w' => e = .returned (.int .u64 v) ∧ RD w0 w' g s0 r2 r3 r4 ∧ Below w0.heap.size w0 w' ∧ KeepBut w w' g none := by
  have HI := Aside0.mk hI
  have HB := Aside0.mk hB
  have HF := Aside0.mk h
  have hn8 : ¬ ((8 : Int) < (n : Int)) := by omega
  have HV := Aside0.mk (Option.some.inj hv)
  clear hI hB h hn hv
  go_enter Tryz.func116, Tryz.ntmps116
  go_wp2_with fail
  refine (num_Reader_Take.calls g s0 s1 s2 s3 n _ r2 r3 r4 w0 _ HI.out HB.out HF.out).mono ?_
  rintro e w1 ⟨vv, rfl, hr, h1, h2, h3⟩
  obtain ⟨A, c, rfl⟩ := Kd.R_slice hr
  have H1 := Aside0.mk h1
  have H2 := Aside0.mk h2
  have H3 := Aside0.mk h3
  clear hr h1 h2 h3
  go_wp2
  go_ret
  exact ⟨by rw [← HV.out]; rfl, H1.out, H2.out, H3.out⟩
set_option maxHeartbeats 1600000 in
set_option maxRecDepth 100000 in
theorem rd_fix_1 (n : Nat) (hn : n = 1 ∨ n = 4) (g : Nat) (s0 : List Int) (s1 s2 s3 : Int) (x0 v : Int) (r2 r3 r4 : Int) (w0 w : World) (hI : RD w0 w g s0 s1 s2 s3) (hB : Below w0.heap.size w0 w) (h : num_Reader_Take.f s0 s1 s2 s3 n = some ([x0], r2, r3, r4)) (hv : fixv [x0] = some v) :
    Calls Tryz.prog 116 #[.pointer (some ⟨g, 0, none⟩), .int .i64 n] w fun e w' => e = .returned (.int .u64 v) ∧ RD w0 w' g s0 r2 r3 r4 ∧ Below w0.heap.size w0 w' ∧ KeepBut w w' g none := by
  have HI := Aside0.mk hI
  have HB := Aside0.mk hB
  have HF := Aside0.mk h
  have hn8 : ¬ ((8 : Int) < (n : Int)) := by omega
  have HV := Aside0.mk (Option.some.inj hv)
  clear hI hB h hn hv
  go_enter Tryz.func116, Tryz.ntmps116
  go_wp2_with fail
  refine (num_Reader_Take.calls g s0 s1 s2 s3 n _ r2 r3 r4 w0 _ HI.out HB.out HF.out).mono ?_
  rintro e w1 ⟨vv, rfl, hr, h1, h2, h3⟩
  obtain ⟨gb, cap, rfl, _⟩ := Kd.R_form hr (by simp)
  have c0 : w1.cell? ⟨gb, 0, none⟩ = some (.int .u8 x0) := (Kd.R_cell (0 : Int) hr 0 (by omega) (by simp)).1
  have H1 := Aside0.mk h1
  have H2 := Aside0.mk h2
  have H3 := Aside0.mk h3
  clear hr h1 h2 h3
  go_wp2
  go_ret
  exact ⟨by rw [← HV.out]; rfl, H1.out, H2.out, H3.out⟩
set_option maxHeartbeats 1600000 in
set_option maxRecDepth 100000 in
theorem rd_fix_4 (n : Nat) (hn : n = 1 ∨ n = 4) (g : Nat) (s0 : List Int) (s1 s2 s3 : Int) (x0 x1 x2 x3 v : Int) (r2 r3 r4 : Int) (w0 w : World) (hI : RD w0 w g s0 s1 s2 s3) (hB : Below w0.heap.size w0 w) (h : num_Reader_Take.f s0 s1 s2 s3 n = some ([x0, x1, x2, x3], r2, r3, r4)) (hv : fixv [x0, x1, x2, x3] = some v) :
    Calls Tryz.prog 116 #[.pointer (some ⟨g, 0, none⟩), .int .i64 n] w fun e w' => e = .returned (.int .u64 v) ∧ RD w0 w' g s0 r2 r3 r4 ∧ Below w0.heap.size w0 w' ∧ KeepBut w w' g none := by
  have HI := Aside0.mk hI
  have HB := Aside0.mk hB
  have HF := Aside0.mk h
  have hn8 : ¬ ((8 : Int) < (n : Int)) := by omega
  have HV := Aside0.mk (Option.some.inj hv)
  clear hI hB h hn hv
  go_enter Tryz.func116, Tryz.ntmps116
  go_wp2_with fail
  refine (num_Reader_Take.calls g s0 s1 s2 s3 n _ r2 r3 r4 w0 _ HI.out HB.out HF.out).mono ?_
  rintro e w1 ⟨vv, rfl, hr, h1, h2, h3⟩
  obtain ⟨gb, cap, rfl, _⟩ := Kd.R_form hr (by simp)
  have c0 : w1.cell? ⟨gb, 0, none⟩ = some (.int .u8 x0) := (Kd.R_cell (0 : Int) hr 0 (by omega) (by simp)).1
  have c1 : w1.cell? ⟨gb, 1, none⟩ = some (.int .u8 x1) := (Kd.R_cell (0 : Int) hr 1 (by omega) (by simp)).1
  have c2 : w1.cell? ⟨gb, 2, none⟩ = some (.int .u8 x2) := (Kd.R_cell (0 : Int) hr 2 (by omega) (by simp)).1
  have c3 : w1.cell? ⟨gb, 3, none⟩ = some (.int .u8 x3) := (Kd.R_cell (0 : Int) hr 3 (by omega) (by simp)).1
  have H1 := Aside0.mk h1
  have H2 := Aside0.mk h2
  have H3 := Aside0.mk h3
  clear hr h1 h2 h3
  go_wp2
  go_ret
  exact ⟨by rw [← HV.out]; rfl, H1.out, H2.out, H3.out⟩
theorem num_Reader_Fix.calls (g : Nat) (s0 : List Int) (s1 s2 s3 : Int) (a1 : Int) (r1 r2 r3 r4 : Int) (w0 w : World) (hI : RD w0 w g s0 s1 s2 s3) (hB : Below w0.heap.size w0 w) (h : num_Reader_Fix.f s0 s1 s2 s3 a1 = some (r1, r2, r3, r4)) :
    Calls Tryz.prog 116 #[.pointer (some ⟨g, 0, none⟩), .int .i64 a1] w fun e w' => e = .returned (.int .u64 r1) ∧ RD w0 w' g s0 r2 r3 r4 ∧ Below w0.heap.size w0 w' ∧ KeepBut w w' g none := by
  unfold num_Reader_Fix.f at h
  by_cases ha : a1 = 1 ∨ a1 = 4
  · rw [if_pos ha] at h
    obtain ⟨n, rfl⟩ : ∃ n : Nat, a1 = (n : Int) := ⟨a1.toNat, by omega⟩
    have hn : n = 1 ∨ n = 4 := by omega
    obtain ⟨⟨l, q2, q3, q4⟩, h1, h⟩ := Option.bind_eq_some_iff.mp h
    obtain ⟨v, hv, h⟩ := Option.bind_eq_some_iff.mp h
    have h := Option.some.inj h
    simp only [Prod.mk.injEq] at h
    obtain ⟨rfl, rfl, rfl, rfl⟩ := h
    match l, h1, hv with
    | [], h1, hv => exact rd_fix_0 n hn g s0 s1 s2 s3 _ _ _ _ w0 w hI hB h1 hv
    | [x0], h1, hv => exact rd_fix_1 n hn g s0 s1 s2 s3 x0 _ _ _ _ w0 w hI hB h1 hv
    | [x0, x1, x2, x3], h1, hv => exact rd_fix_4 n hn g s0 s1 s2 s3 x0 x1 x2 x3 _ _ _ _ w0 w hI hB h1 hv
  · rw [if_neg ha] at h
    cases h
end Go.Proofs.YtjmhiklmlgbifaaGreatDoor.PMan
end

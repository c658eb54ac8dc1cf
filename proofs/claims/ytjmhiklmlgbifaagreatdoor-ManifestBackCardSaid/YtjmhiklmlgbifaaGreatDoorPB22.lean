/- Texts of this proof, put into one, without what it does not use: ManG, ManH. -/
import Derived.Test.YtjmhiklmlgbifaaGreatDoorPB21
import Derived.Outline
import Derived.Laws.CopyRow
import Derived.Laws.IdiomCopy
import Derived.Test.YtjmhiklmlgbifaaGreatDoorPB2
section
namespace Go.Proofs.YtjmhiklmlgbifaaGreatDoor.PMan
open Go.RowKit Go.Proofs.YtjmhiklmlgbifaaGreatDoorW.PrintWords Go.Proofs.YtjmhiklmlgbifaaGreatDoorW.PrintLast Go.Proofs.YtjmhiklmlgbifaaGreatDoorW.PrintMore
attribute [local go_sem] max2_int min2_int max_two min_two max_three min_three max_four min_four   -- for this text's walks alone
set_option linter.unusedVariables false
set_option linter.unusedSimpArgs false
theorem lt10 : num_Reader_Take.f leastL 10 0 0 32 = some (List.replicate 32 0, 42, 0, 0) := by decide +kernel
theorem lt43 : num_Reader_Take.f leastL 43 0 0 32 = some (List.replicate 32 0, 75, 0, 0) := by decide +kernel
theorem lv42 : num_short.f 3 (leastL.drop (42 : Int).toNat) = some (0, 1, 0) := by decide +kernel
theorem setCell_self (w : World) (b o : Nat) (v : Value) (c : Array Value) (t : TypeId) (fr : Nat × Nat) (hb : w.heap[b]? = some (.cells c t fr)) (hv : c[o]? = some v) : w.setCell ⟨b, o, none⟩ v = w := by
  have hlt : b < w.heap.size := (Array.getElem?_eq_some_iff.1 hb).1
  have he : w.heap[b] = .cells c t fr := (Array.getElem?_eq_some_iff.1 hb).2
  have hs : c.setIfInBounds o v = c := by
    apply Array.ext_getElem?
    intro i
    rw [Array.getElem?_setIfInBounds]
    split
    · rename_i h; subst h; simp only [(Array.getElem?_eq_some_iff.1 hv).1, if_true]; exact hv.symm
    · rfl
  unfold World.setCell
  cases w with
  | mk heap tape drawn os output =>
    congr 1
    apply Array.ext
    · simp
    · intro k h1 h2
      simp only [Array.getElem_modify]
      split
      · rename_i hk; subst hk; simp at he; simp [he, hs]
      · rfl
theorem setCells_self (w : World) (b : Nat) (c : Array Value) (t : TypeId) (fr : Nat × Nat) (hb : w.heap[b]? = some (.cells c t fr)) : ∀ (vs : List Value) (o : Nat), (∀ j v, vs[j]? = some v → c[o + j]? = some v) → w.setCells b o vs = w
  | [], _, _ => rfl
  | v :: r, o, h => by
    have h0 := h 0 v rfl
    rw [World.setCells, setCell_self w b o v c t fr hb (by simpa using h0)]
    exact setCells_self w b c t fr hb r (o + 1) (fun j u hj => by have := h (j + 1) u (by simpa using hj); rwa [show o + (j + 1) = o + 1 + j from by omega] at this)
theorem ents_at_lo (j : Nat) (hj : j < 32) : Tryz.zeroCells81[0 + j]? = some (.int .u8 0) := by
  rw [ents_is, List.getElem?_toArray, Nat.zero_add, List.getElem?_append_left (by simpa using hj), List.getElem?_map, List.getElem?_replicate, if_pos hj]
  rfl
theorem ents_at_hi (j : Nat) (hj : j < 32) : Tryz.zeroCells81[33 + j]? = some (.int .u8 0) := by
  rw [ents_is, List.getElem?_toArray, List.getElem?_append_right (by simp; omega), List.length_map, List.length_replicate, show 33 + j - 32 = j + 1 from by omega, List.getElem?_cons_succ, List.getElem?_map, List.getElem?_replicate, if_pos hj]
  rfl
theorem copy_noughts (w : World) (b o : Nat) (A : Option Addr) (c : Nat) (hr : Kd.C (Kd.int .u8) w A (List.replicate 32 (0 : Int)).length (List.replicate 32 0)) (hb : w.heap[b]? = some (.cells Tryz.zeroCells81 81 (0, 0))) (he : ∀ j, j < 32 → Tryz.zeroCells81[o + j]? = some (.int .u8 0)) :
    (Builtin.copy_ #[30, 30] 3 #[.slice (some ⟨b, o, none⟩) 32 32, .slice A 32 c]).run Tryz.prog w = .ok (goInt 32) w := by
  obtain ⟨ad, rfl, _⟩ := Kd.at_int hr 0 (by decide) (by decide)
  have hcell : ∀ j, j < 32 → w.cell? ⟨b, o + j, none⟩ = some (.int .u8 0) := fun j hj => (blk_cell hb (o + j)).trans (he j hj)
  have h := run_copy_cells (P := Tryz.prog) w 30 30 3 5 b o 32 32 ad 32 c (List.replicate 32 (.int .u8 0)) Tryz.underlying30 (by kernel_rfl) (by decide) (fun j v hj => by
      have hj2 : j < 32 := by have := (List.getElem?_eq_some_iff.1 hj).1; simpa using this
      have hv : v = .int .u8 0 := by
        have := (List.getElem?_eq_some_iff.1 hj).2
        rw [List.getElem_replicate] at this
        exact this.symm
      obtain ⟨ad', e, hk⟩ := Kd.at_int hr (j : Int) (by omega) (by rw [List.length_replicate]; omega)
      obtain rfl := Option.some.inj e
      have hz : rd (List.replicate 32 (0 : Int)) (j : Int) = 0 := by unfold rd; rw [Int.toNat_natCast, List.getD_eq_getElem?_getD, List.getElem?_replicate, if_pos hj2]; rfl
      rw [hz, Int.toNat_natCast] at hk
      subst hv
      exact hk) (fun j hj => by rw [hcell j (by simpa using hj)]; rfl) (fun j hj => blk_frozen hb _) (fun v hv => by rw [List.eq_of_mem_replicate hv]; rfl)
  rw [setCells_self w b Tryz.zeroCells81 _ _ hb _ o (fun j v hj => by
    have hj2 : j < 32 := by have := (List.getElem?_eq_some_iff.1 hj).1; simpa using this
    have := (List.getElem?_eq_some_iff.1 hj).2
    rw [List.getElem_replicate] at this
    rw [he j hj2, this])] at h
  exact h
set_option maxHeartbeats 4000000 in
set_option maxRecDepth 100000 in
theorem rd_ledTake (g : Nat) (w0 w : World) (hG : ErrT w0) (hI : RD w0 w g leastL 10 0 0) (hB : Below w0.heap.size w0 w) :
    Calls Tryz.prog 95 #[.pointer (some ⟨g, 0, none⟩)] w fun e w' => e = .returned (.agg Tryz.zeroCells81) ∧ RD w0 w' g leastL 75 0 0 ∧ Below w0.heap.size w0 w' ∧ KeepBut w w' g none := by
  have HG := Aside0.mk hG
  have HI := Aside0.mk hI
  have HB := Aside0.mk hB
  have HGW := Aside0.mk hI.lt
  clear hG hI hB
  go_enter Tryz.func95, Tryz.ntmps95
  go_wp2_with fail
  have hal : Below w.heap.size w (w.alloc (.cells Tryz.zeroCells81 81)).drew := below_drew (below_alloc (Below.refl _ _) _)
  have HE1 := Aside0.mk (show (w.alloc (.cells Tryz.zeroCells81 81)).drew.heap[w.heap.size]? = some (.cells Tryz.zeroCells81 81 (0, 0)) from heap_alloc_new w _)
  have HI1 := Aside0.mk (HI.out.below hal)
  have HB1 := Aside0.mk (below_then HB.out HB.out.size hal)
  have HKP2 := Aside0.mk (KeepBut.of_below hal g none)
  clear hal
  refine start_ (n := 5) (S := fun w' => True) (ds := []) #[false, false, false, false, false] (by kernel_rfl) rfl rfl trivial (fun hHeld => ?_)
  generalize (w.alloc (.cells Tryz.zeroCells81 81)).drew = W1 at *
  refine pure_ (i := 0) (N := some 6) (v := ?_) (a' := ?_) #[true, false, false, false, false] rfl rfl (by kernel_rfl) (fun _ _ _ h => h) (Or.inl ⟨by rfl, ?_⟩) ?_ ?_
  rotate_left
  · intro w'
    go_simp
    with_reducible rfl
  rotate_left
  · simp only [Act.put, List.setIfInBounds_toArray, List.set_cons_zero, List.set_cons_succ, i64_w, i32_w]
    rfl
  refine pure_ (i := 1) (N := some 7) (v := ?_) (a' := ?_) #[true, true, false, false, false] rfl rfl (by kernel_rfl) (fun _ _ _ h => h) (Or.inl ⟨by rfl, ?_⟩) ?_ ?_
  rotate_left
  · intro w'
    go_simp
    with_reducible rfl
  rotate_left
  · simp only [Act.put, List.setIfInBounds_toArray, List.set_cons_zero, List.set_cons_succ, i64_w, i32_w]
    rfl
  refine pure_ (i := 2) (N := some 8) (v := ?_) (a' := ?_) #[true, true, true, false, false] rfl rfl (by kernel_rfl) (fun _ _ _ h => h) (Or.inl ⟨by rfl, ?_⟩) ?_ ?_
  rotate_left
  · intro w'
    go_simp
    with_reducible rfl
  rotate_left
  · simp only [Act.put, List.setIfInBounds_toArray, List.set_cons_zero, List.set_cons_succ, i64_w, i32_w]
    rfl
  refine one_ (i := 3) (N := some 9) #[true, true, true, true, false] rfl rfl (by kernel_rfl) (by decide) (fun K hK => ?_)
  refine goes_ Tryz.func127 (by kernel_rfl) rfl #[.pointer (some ⟨g, 0, none⟩), .int .i64 32] (by rfl) rfl rfl (by simp only [List.map_toArray, List.map_cons, List.map_nil]; rfl) ?_
  with_reducible refine (num_Reader_Take.calls g leastL 10 0 0 32 (List.replicate 32 0) 42 0 0 w0 W1 HI1.out HB1.out lt10).mono ?_
  rintro e w2 ⟨v2, rfl, hr, h1, h2, h3⟩
  refine ⟨_, rfl, ?_⟩
  obtain ⟨A2, c2, rfl⟩ := Kd.R_slice hr
  have hrd := (Kd.R_reads' hr).2.2
  have HI2 := Aside0.mk h1
  have HB2 := Aside0.mk h2
  have hbe := (h3.2 w.heap.size (blk_lt HE1.out) (Ne.symm (Nat.ne_of_lt HGW.out)) (by simp)).trans HE1.out
  have HE2 := Aside0.mk hbe
  have HK2 := Aside0.mk (keep_then HKP2.out h3)
  have hcp := copy_noughts w2 w.heap.size 0 A2 c2 hrd hbe (by intro j hj; exact ents_at_lo j hj)
  clear hr h1 h2 h3 hbe hrd
  refine hK.out _ _ trivial (fun hHeld => ?_)
  clear hK K
  refine norm_ (a' := ?_) ?_ ?_
  rotate_left
  · show Act.put _ (some 9) _ = _
    simp only [Act.put, List.setIfInBounds_toArray, List.set_cons_zero, List.set_cons_succ, i64_w, i32_w]
    rfl
  refine one_ (i := 4) (N := some 10) #[true, true, true, true, true] rfl rfl (by kernel_rfl) (by decide) (fun K hK => ?_)
  refine value_ (w1 := ?_) (v := ?_) (by rfl) rfl ?_ ?_
  rotate_left 2
  · go_simp
    constructor
    · rfl
    · rfl
  refine hK.out _ _ trivial (fun hHeld => ?_)
  clear hK K
  refine norm_ (a' := ?_) ?_ ?_
  rotate_left
  · show Act.put _ (some 10) _ = _
    simp only [Act.put, List.setIfInBounds_toArray, List.set_cons_zero, List.set_cons_succ, i64_w, i32_w]
    rfl
  refine done_ (by kernel_rfl) ?_
  go_wp2_with fail
  refine (rd_var 3 g leastL 42 0 1 w0 w2 HI2.out HB2.out (by decide) (by decide) (by decide +kernel) lv42).mono ?_
  rintro e w3 ⟨rfl, h1, h2, h3⟩
  have HI4 := Aside0.mk (show RD w0 w3.drew g leastL 43 0 0 from RD.drew h1)
  have HB4 := Aside0.mk (below_drew h2)
  have HE4 := Aside0.mk (show w3.drew.heap[w.heap.size]? = some (.cells Tryz.zeroCells81 81 (0, 0)) from (h3.2 w.heap.size (blk_lt HE2.out) (Ne.symm (Nat.ne_of_lt HGW.out)) (by simp)).trans HE2.out)
  have HKP5 := Aside0.mk (show KeepBut w w3.drew g none from keep_then HK2.out h3)
  clear h1 h2 h3
  go_wp2_with fail
  refine start_ (n := 5) (S := fun w' => True) (ds := []) #[false, false, false, false, false] (by kernel_rfl) rfl rfl trivial (fun hHeld => ?_)
  generalize w3.drew = W4 at *
  refine pure_ (i := 0) (N := some 13) (v := ?_) (a' := ?_) #[true, false, false, false, false] rfl rfl (by kernel_rfl) (fun _ _ _ h => h) (Or.inl ⟨by rfl, ?_⟩) ?_ ?_
  rotate_left
  · intro w'
    go_simp
    with_reducible rfl
  rotate_left
  · simp only [Act.put, List.setIfInBounds_toArray, List.set_cons_zero, List.set_cons_succ, i64_w, i32_w]
    rfl
  refine pure_ (i := 1) (N := some 14) (v := ?_) (a' := ?_) #[true, true, false, false, false] rfl rfl (by kernel_rfl) (fun _ _ _ h => h) (Or.inl ⟨by rfl, ?_⟩) ?_ ?_
  rotate_left
  · intro w'
    go_simp
    with_reducible rfl
  rotate_left
  · simp only [Act.put, List.setIfInBounds_toArray, List.set_cons_zero, List.set_cons_succ, i64_w, i32_w]
    rfl
  refine pure_ (i := 2) (N := some 15) (v := ?_) (a' := ?_) #[true, true, true, false, false] rfl rfl (by kernel_rfl) (fun _ _ _ h => h) (Or.inl ⟨by rfl, ?_⟩) ?_ ?_
  rotate_left
  · intro w'
    go_simp
    with_reducible rfl
  rotate_left
  · simp only [Act.put, List.setIfInBounds_toArray, List.set_cons_zero, List.set_cons_succ, i64_w, i32_w]
    rfl
  refine one_ (i := 3) (N := some 16) #[true, true, true, true, false] rfl rfl (by kernel_rfl) (by decide) (fun K hK => ?_)
  refine goes_ Tryz.func127 (by kernel_rfl) rfl #[.pointer (some ⟨g, 0, none⟩), .int .i64 32] (by rfl) rfl rfl (by simp only [List.map_toArray, List.map_cons, List.map_nil]; rfl) ?_
  with_reducible refine (num_Reader_Take.calls g leastL 43 0 0 32 (List.replicate 32 0) 75 0 0 w0 W4 HI4.out HB4.out lt43).mono ?_
  rintro e w5 ⟨v5, rfl, hr, h1, h2, h3⟩
  refine ⟨_, rfl, ?_⟩
  obtain ⟨A5, c5, rfl⟩ := Kd.R_slice hr
  have hrd := (Kd.R_reads' hr).2.2
  have HI5 := Aside0.mk h1
  have HB5 := Aside0.mk h2
  have hbe := (h3.2 w.heap.size (blk_lt HE4.out) (Ne.symm (Nat.ne_of_lt HGW.out)) (by simp)).trans HE4.out
  have HE5 := Aside0.mk hbe
  have HK5 := Aside0.mk (keep_then HKP5.out h3)
  have hcp := copy_noughts w5 w.heap.size 33 A5 c5 hrd hbe (by intro j hj; exact ents_at_hi j hj)
  clear hr h1 h2 h3 hbe hrd
  refine hK.out _ _ trivial (fun hHeld => ?_)
  clear hK K
  refine norm_ (a' := ?_) ?_ ?_
  rotate_left
  · show Act.put _ (some 16) _ = _
    simp only [Act.put, List.setIfInBounds_toArray, List.set_cons_zero, List.set_cons_succ, i64_w, i32_w]
    rfl
  refine one_ (i := 4) (N := some 17) #[true, true, true, true, true] rfl rfl (by kernel_rfl) (by decide) (fun K hK => ?_)
  refine value_ (w1 := ?_) (v := ?_) (by rfl) rfl ?_ ?_
  rotate_left 2
  · go_simp
    constructor
    · rfl
    · rfl
  refine hK.out _ _ trivial (fun hHeld => ?_)
  clear hK K
  refine norm_ (a' := ?_) ?_ ?_
  rotate_left
  · show Act.put _ (some 17) _ = _
    simp only [Act.put, List.setIfInBounds_toArray, List.set_cons_zero, List.set_cons_succ, i64_w, i32_w]
    rfl
  refine done_ (by kernel_rfl) ?_
  go_wp2_with fail
  refine (rd_err g leastL 75 0 0 w0 w5 (HG.out.of_below HB5.out) HI5.out).mono ?_
  rintro e w6 ⟨rfl, h1⟩
  have HI6 := Aside0.mk (HI5.out.below h1)
  have HB6 := Aside0.mk (below_then HB5.out HB5.out.size h1)
  have HK6 := Aside0.mk (KeepBut.below_ HK5.out h1)
  have hb6 := (h1.block _ (blk_lt HE5.out)).trans HE5.out
  have hq := (blk_cell hb6 32).trans ents32
  have hf := blk_frozen hb6 32
  have hw1 := setCell_self w6 w.heap.size 32 (.int .i64 0) Tryz.zeroCells81 _ _ hb6 ents32
  have hw2 := setRow_self w6 w.heap.size Tryz.zeroCells81 _ _ hb6
  have HW1 := Aside0.mk hw1
  have HW2 := Aside0.mk hw2
  have HX := Aside0.mk (show (w6.setCell ⟨w.heap.size, 32, none⟩ (.int .i64 0)).heap[w.heap.size]? = some (.cells Tryz.zeroCells81 81 (0, 0)) from by rw [hw1]; exact hb6)
  have HE6 := Aside0.mk hb6
  have hone : Tryz.zeroCells81.all (·.oneCell') = true := by kernel_rfl
  clear h1 hb6 hw1 hw2
  go_wp2_with (first | (refine wpList_load_row rfl 81 (.tmp 2) rfl w.heap.size rfl 81 Tryz.zeroCells81 (0, 0) _ HX.out Tryz.underlying81 rfl (by rw [ents_size]; kernel_rfl) ?_) | (refine wpList_store_row rfl 81 (.tmp 2) (.tmp 33) rfl w.heap.size Tryz.zeroCells81 rfl rfl 81 Tryz.zeroCells81 HX.out (by rw [ents_size]; kernel_rfl) rfl hone ?_))
  rw [HW1.out, HW2.out]
  refine bodyPost_ret (v := .agg Tryz.zeroCells81) (results_cell_row rfl _ _ w.heap.size 81 Tryz.zeroCells81 (0, 0) _ rfl HE6.out Tryz.underlying81 rfl (by rw [ents_size]; kernel_rfl)) rfl ?_
  exact ⟨rfl, HI6.out, HB6.out, HK6.out⟩
end Go.Proofs.YtjmhiklmlgbifaaGreatDoor.PMan
end
section
namespace Go.Proofs.YtjmhiklmlgbifaaGreatDoor.PMan
open Go.RowKit Go.Proofs.YtjmhiklmlgbifaaGreatDoorW.PrintWords Go.Proofs.YtjmhiklmlgbifaaGreatDoorW.PrintLast Go.Proofs.YtjmhiklmlgbifaaGreatDoorW.PrintMore
attribute [local go_sem] max2_int min2_int max_two min_two max_three min_three max_four min_four   -- for this text's walks alone
set_option linter.unusedVariables false
set_option linter.unusedSimpArgs false
/-- What lies before block g. -/
def truncW (W : World) (g : Nat) : World := { W with heap := W.heap.extract 0 g }
theorem truncW_size (W : World) (g : Nat) (h : g ≤ W.heap.size) : (truncW W g).heap.size = g := by
  show (W.heap.extract 0 g).size = g
  rw [Array.size_extract]
  omega
theorem truncW_at (W : World) (g k : Nat) (h : g ≤ W.heap.size) (hk : k < g) : (truncW W g).heap[k]? = W.heap[k]? := by
  show (W.heap.extract 0 g)[k]? = W.heap[k]?
  rw [Array.getElem?_extract, if_pos (by omega), Nat.zero_add]
/-- Numbers that are read at addresses of which no block turned. -/
theorem C_move_int {w0 W : World} {A : Option Addr} {n : Nat} {l : List Int} (h : Kd.C (Kd.int .u8) w0 A n l) (hm : ∀ ad : Addr, A = some ad → 0 < n → W.heap[ad.block]? = w0.heap[ad.block]?) : Kd.C (Kd.int .u8) W A n l := by
  refine ⟨h.1, h.2.1, fun hn => ?_⟩
  obtain ⟨ad, e, hc⟩ := h.2.2 hn
  refine ⟨ad, e, fun j p hj => ?_⟩
  obtain ⟨c, h1, h2, h3⟩ := hc j p hj
  refine ⟨c, h1, h2, fun i u hu => ?_⟩
  refine (World.cell?_of_block (w := w0) ?_).trans (h3 i u hu)
  rw [add_block]
  exact hm ad e hn
/-- A reader without an error; block mb may be written beside it. -/
def RDB (mb : Nat) (W : World) (g : Nat) (l : List Int) (a : Int) : Prop := ∃ w0, RD w0 W g l a 0 0 ∧ Below w0.heap.size w0 W ∧ ErrT w0 ∧ mb < w0.heap.size ∧ 0 ≠ mb
theorem RDB.below {mb : Nat} {W W1 : World} {g : Nat} {l : List Int} {a : Int} (h : RDB mb W g l a) (hb : Below W.heap.size W W1) : RDB mb W1 g l a := by
  obtain ⟨w0, h1, h2, h3, h4, h5⟩ := h
  exact ⟨w0, h1.below hb, below_then h2 h2.size hb, h3, h4, h5⟩
theorem RDB.errT {mb : Nat} {W : World} {g : Nat} {l : List Int} {a : Int} (h : RDB mb W g l a) : ErrT W := by
  obtain ⟨w0, h1, h2, h3, h4, h5⟩ := h
  exact h3.of_below h2
theorem RDB.lt {mb : Nat} {W : World} {g : Nat} {l : List Int} {a : Int} (h : RDB mb W g l a) : mb < g ∧ g < W.heap.size := by
  obtain ⟨w0, h1, h2, h3, h4, h5⟩ := h
  obtain ⟨A, c, ev, k1, k2, k3, k4, k5⟩ := h1
  exact ⟨by omega, blk_lt k1⟩
theorem RDB.store {mb : Nat} {W W1 : World} {g : Nat} {l : List Int} {a : Int} {cs : Array Value} {t : TypeId} (h : RDB mb W g l a) (hl : 0 < l.length) (hm : W.heap[mb]? = some (.cells cs t (0, 0))) (hcs : ∀ (i : Nat) (x : Int), cs[i]? ≠ some (Value.int .u8 x)) (hW : KeepBut W W1 mb none) : RDB mb W1 g l a := by
  obtain ⟨w0, hr, hb, hG, hmb, he⟩ := h
  have hglt := hr.lt
  obtain ⟨A, c, ev, k1, k2, k3, k4, k5⟩ := hr
  have hgm : g ≠ mb := by omega
  have hW1g := hW.2 g hglt hgm (by simp)
  have hgl1 : g ≤ W1.heap.size := by have := hW.1; omega
  have hET := hG.lt
  refine ⟨truncW W1 g, ⟨A, c, ev, hW1g.trans k1, Nat.le_of_eq (truncW_size W1 g hgl1), ?_, k4, ?_⟩, ⟨rfl, rfl, rfl, ?_, ?_⟩, ?_, ?_, he⟩
  · refine C_move_int k3 (fun ad hA hn => ?_)
    obtain ⟨ad', hA', hcell⟩ := Kd.at_int k3 0 (by decide) (by omega)
    have hadd : ad' = ad := by rw [hA] at hA'; exact (Option.some.inj hA').symm
    subst hadd
    have hlt : ad'.block < w0.heap.size := by
      have := World.block_lt_of_cell? _ _ hcell
      rwa [add_block] at this
    have hW0 : W.heap[ad'.block]? = w0.heap[ad'.block]? := hb.block _ hlt
    have hne : ad'.block ≠ mb := fun e => by
      have hcW : W.cell? (ad'.add (Int.toNat 0)) = some (.int .u8 (rd l 0)) := (World.cell?_of_block (w := w0) (by rw [add_block]; exact hW0)).trans hcell
      unfold World.cell? at hcW
      rw [add_block, e, hm] at hcW
      dsimp only at hcW
      split at hcW
      · cases hcW
      · exact hcs _ _ hcW
    exact (truncW_at W1 g _ hgl1 (by omega)).trans ((hW.2 _ (by have := hb.size; omega) hne (by simp)).trans hW0)
  · rcases k5 with ⟨_, _, hev⟩ | ⟨hne, _⟩
    · exact .inl ⟨rfl, rfl, hev⟩
    · exact absurd rfl hne
  · rw [truncW_size W1 g hgl1]; exact hgl1
  · intro k hk
    rw [truncW_size W1 g hgl1] at hk
    exact (truncW_at W1 g k hgl1 hk).symm
  · exact (World.cell?_of_block (w := w0) ((truncW_at W1 g _ hgl1 (by show 0 < g; omega)).trans ((hW.2 _ (by have := hb.size; show 0 < _; omega) he (by simp)).trans (hb.block _ hET)))).trans hG
  · rw [truncW_size W1 g hgl1]; omega
theorem base_call {w w0 W W1 : World} {n g : Nat} (hb : Below w.heap.size w W) (h0 : Below n w0 W) (h1 : Below n w0 W1) (hk : KeepBut W W1 g none) (hg : w.heap.size ≤ g) : Below w.heap.size w W1 :=
  ⟨h1.os.trans (h0.os.symm.trans hb.os), h1.tape.trans (h0.tape.symm.trans hb.tape), h1.output.trans (h0.output.symm.trans hb.output), Nat.le_trans hb.size hk.1,
    fun k hk2 => (hk.2 k (Nat.lt_of_lt_of_le hk2 hb.size) (by omega) (by simp)).trans (hb.block k hk2)⟩
theorem keep_blk {W W1 : World} {g b : Nat} {o : Obj} (hk : KeepBut W W1 g none) (hb : W.heap[b]? = some o) (hne : b ≠ g) : W1.heap[b]? = some o := (hk.2 b (blk_lt hb) hne (by simp)).trans hb
def RCall (W W1 : World) (g : Nat) : Prop := KeepBut W W1 g none ∧ ∀ w : World, Below w.heap.size w W → w.heap.size ≤ g → Below w.heap.size w W1
theorem RCall.of_below {W W1 : World} {g : Nat} (h : Below W.heap.size W W1) : RCall W W1 g := ⟨KeepBut.of_below h g none, fun _ hb _ => below_then hb hb.size h⟩
theorem RCall.of {w0 W W1 : World} {g : Nat} (h0 : Below w0.heap.size w0 W) (h1 : Below w0.heap.size w0 W1) (hk : KeepBut W W1 g none) : RCall W W1 g := ⟨hk, fun _ hb hg => base_call hb h0 h1 hk hg⟩
theorem mr_number (mb g : Nat) (a v n a' : Int) (W : World) (ha : a + n = a') (H : RDB mb W g leastL a) (h0 : 0 ≤ a) (h1 : a ≤ leastL.length) (hn : wrap64 (a + n) = a + n) (hf : num_short.f 3 (leastL.drop a.toNat) = some (v, n, 0)) (hv : 0 ≤ v) (hv2 : v ≤ 1099511627776) :
    Calls Tryz.prog 90 #[.pointer (some ⟨g, 0, none⟩)] W fun e w' => e = .returned (.int .i64 v) ∧ RDB mb w' g leastL a' ∧ RCall W w' g := by
  subst ha
  obtain ⟨w0, hI, hB, hG, hm, he⟩ := H
  refine (rd_number 3 g leastL a v n w0 W hI hB h0 h1 hn hf hv hv2).mono ?_
  rintro e w' ⟨rfl, k1, k2, k3⟩
  exact ⟨rfl, ⟨w0, k1, k2, hG, hm, he⟩, RCall.of hB k2 k3⟩
theorem mr_schema (mb g : Nat) (W : World) (H : RDB mb W g leastL 3) :
    Calls Tryz.prog 91 #[.pointer (some ⟨g, 0, none⟩)] W fun e w' => ∃ s c, e = .returned (.slice (some ⟨s, 0, none⟩) 1 c) ∧ 1 ≤ c ∧ Kd.C k123 w' (some ⟨s, 0, none⟩) 1 [⟨1, false, -1⟩] ∧ W.heap.size ≤ s ∧ s < w'.heap.size ∧ RDB mb w' g leastL 7 ∧ RCall W w' g := by
  obtain ⟨w0, hI, hB, hG, hm, he⟩ := H
  refine (rd_takeSchema g w0 W hG hI hB).mono ?_
  rintro e w' ⟨s, c, rfl, k1, k2, k3, k4, k5, k6, k7⟩
  exact ⟨s, c, rfl, k1, k2, k3, k4, ⟨w0, k5, k6, hG, hm, he⟩, RCall.of hB k6 k7⟩
theorem mr_rows (mb s c g : Nat) (W : World) (H : RDB mb W g leastL 8) :
    Calls Tryz.prog 94 #[.pointer (some ⟨g, 0, none⟩), .slice (some ⟨s, 0, none⟩) 1 c] W fun e w' => e = .returned (.slice none 0 0) ∧ RDB mb w' g leastL 9 ∧ RCall W w' g := by
  obtain ⟨w0, hI, hB, hG, hm, he⟩ := H
  refine (rd_takeRows s c g w0 W hG hI hB).mono ?_
  rintro e w' ⟨rfl, k5, k6, k7⟩
  exact ⟨rfl, ⟨w0, k5, k6, hG, hm, he⟩, RCall.of hB k6 k7⟩
theorem mr_entry (mb g : Nat) (W : World) (H : RDB mb W g leastL 10) :
    Calls Tryz.prog 95 #[.pointer (some ⟨g, 0, none⟩)] W fun e w' => e = .returned (.agg Tryz.zeroCells81) ∧ RDB mb w' g leastL 75 ∧ RCall W w' g := by
  obtain ⟨w0, hI, hB, hG, hm, he⟩ := H
  refine (rd_ledTake g w0 W hG hI hB).mono ?_
  rintro e w' ⟨rfl, k5, k6, k7⟩
  exact ⟨rfl, ⟨w0, k5, k6, hG, hm, he⟩, RCall.of hB k6 k7⟩
theorem mr_err (mb g : Nat) (a : Int) (W : World) (H : RDB mb W g leastL a) :
    Calls Tryz.prog 89 #[.pointer (some ⟨g, 0, none⟩)] W fun e w' => e = .returned (.tuple #[.int .i64 0, .int .i64 0]) ∧ Below W.heap.size W w' := by
  have hG := H.errT
  obtain ⟨w0, hI, hB, _, hm, he⟩ := H
  exact rd_err g leastL a 0 0 w0 W hG hI
theorem mr_end (mb g : Nat) (W : World) (H : RDB mb W g leastL 75) :
    Calls Tryz.prog 96 #[.pointer (some ⟨g, 0, none⟩)] W fun e w' => e = .returned (.tuple #[.int .i64 0, .int .i64 0]) ∧ Below W.heap.size W w' := by
  have hG := H.errT
  obtain ⟨w0, hI, hB, _, hm, he⟩ := H
  exact rd_end g leastL 75 w0 W hG hI (by decide +kernel)
abbrev MCells (a b : Int) (S : Value) (m : Int) (E : Value) : Array Value := #[.int .i64 a, .int .i64 b, S, .int .i64 m, .slice none 0 0, .slice none 0 0, E]
theorem mc_no (a b m : Int) (A B : Option Addr) (n c n' c' : Nat) : ∀ (i : Nat) (x : Int), (MCells a b (.slice A n c) m (.slice B n' c'))[i]? ≠ some (Value.int .u8 x) := by
  intro i x h
  rcases i with _ | _ | _ | _ | _ | _ | _ | i <;> simp [MCells] at h
theorem C_move_col {W W1 : World} {s : Nat} {n : Nat} {l : List S123} (h : Kd.C k123 W (some ⟨s, 0, none⟩) n l) (hm : W1.heap[s]? = W.heap[s]?) : Kd.C k123 W1 (some ⟨s, 0, none⟩) n l := by
  refine ⟨h.1, h.2.1, fun hn => ?_⟩
  obtain ⟨ad, e, hc⟩ := h.2.2 hn
  obtain rfl := Option.some.inj e
  refine ⟨_, rfl, fun j p hj => ?_⟩
  obtain ⟨c, h1, h2, h3⟩ := hc j p hj
  refine ⟨c, h1, h2, fun i u hu => ?_⟩
  refine (World.cell?_of_block (w := W) ?_).trans (h3 i u hu)
  rw [add_block]
  exact hm
theorem EntC.move {W W1 : World} {e : Nat} (h : EntC W e) (hm : W1.heap[e]? = W.heap[e]?) : EntC W1 e := fun i x hx => (World.cell?_of_block (w := W) hm).trans (h i x hx)
theorem EntC.of_raw {W : World} {e : Nat} (h : Kd.C (Kd.raw 65) W (some ⟨e, 0, none⟩) 1 [Tryz.zeroCells81.toList]) : EntC W e := fun i x hx => by
  obtain ⟨ad, he, hc⟩ := h.2.2 (by decide)
  obtain rfl := Option.some.inj he
  obtain ⟨c, h1, ⟨h2, _⟩, h3⟩ := hc 0 Tryz.zeroCells81.toList rfl
  subst h2
  have := h3 i x hx
  have hadd : (⟨e, 0, none⟩ : Addr).add (0 * (Kd.raw 65).sz + i) = ⟨e, 0 + i, none⟩ := by
    show (⟨e, 0, none⟩ : Addr).add (0 * 65 + i) = _
    rw [show 0 * 65 + i = i from by omega]
    exact (Addr.add_mid e 0 i).trans (by rw [Nat.zero_add])
  rwa [hadd] at this
theorem results_cr_tmp {P : Program} {fn : Func} {p u : Tmp} {ty : TypeId} (h : fn.results = #[.cell p ty, .tmp u]) (tmps : Array Value) (w : World) (g : Nat) (t : TypeId) (cs : Array Value) (fr : Nat × Nat) (d : TypeDesc)
    (hp : tmps.getD p undef = .pointer (some ⟨g, 0, none⟩)) (hg : w.heap[g]? = some (.cells cs t fr))
    (hu : P.underlying ty = some d) (hd : (match d with | .struct _ | .array _ _ => true | _ => false) = true) (hi : (P.info? ty).map (·.size) = some cs.size) :
    (results fn tmps).run P w = .ok (.tuple #[.agg cs, tmps.getD u undef]) w := by
  have hp' : tmps[p]?.getD undef = .pointer (some ⟨g, 0, none⟩) := by simpa using hp
  simp [results, h, hp', asAddr, run_loadVar_row w g t ty cs fr d hg hu hd hi]
set_option maxHeartbeats 1600000 in
set_option maxRecDepth 100000 in
theorem m_goodf (mb rb g : Nat) (a : Int) (W : World) (H : RDB mb W g leastL a) (hp : W.heap[rb]? = some (.cells #[.pointer (some ⟨g, 0, none⟩)] 146 (0, 0))) :
    Calls Tryz.prog 88 #[.pointer (some ⟨rb, 0, none⟩)] W fun e w' => e = .returned (.bool true) ∧ Below W.heap.size W w' := by
  have HH := Aside0.mk H
  have hrb : W.cell? ⟨rb, 0, none⟩ = some (.pointer (some ⟨g, 0, none⟩)) := blk_cell hp 0
  clear H hp
  go_enter Tryz.func88, Tryz.ntmps88
  go_wp2_with fail
  refine (mr_err mb g a W HH.out).mono ?_
  rintro e w' ⟨rfl, hb⟩
  have HB := Aside0.mk hb
  clear hb
  go_wp2
  go_ret
  exact ⟨rfl, HB.out⟩
end Go.Proofs.YtjmhiklmlgbifaaGreatDoor.PMan
end

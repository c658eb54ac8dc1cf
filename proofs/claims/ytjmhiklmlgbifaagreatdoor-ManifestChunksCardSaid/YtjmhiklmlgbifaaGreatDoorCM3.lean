/- Texts of this proof, put into one: ManG, ManH, ManI, ManJ, ManK, ManL, ChunksD. -/
import Derived.Test.YtjmhiklmlgbifaaGreatDoorCM2
import Derived.Outline
import Derived.Laws.CopyRow
import Derived.Laws.IdiomCopy
import Derived.Test.YtjmhiklmlgbifaaGreatDoorWApart
import Derived.Test.YtjmhiklmlgbifaaGreatDoorPManx15
import Derived.Test.YtjmhiklmlgbifaaGreatDoorPManx18
import Derived.Test.YtjmhiklmlgbifaaGreatDoorPManx20
import Derived.Test.YtjmhiklmlgbifaaGreatDoorPManx21
import Derived.Test.YtjmhiklmlgbifaaGreatDoorCM1
section
namespace Go.Proofs.YtjmhiklmlgbifaaGreatDoor.PMan
open Go.RowKit Go.Proofs.YtjmhiklmlgbifaaGreatDoorW.PrintWords Go.Proofs.YtjmhiklmlgbifaaGreatDoorW.PrintLast Go.Proofs.YtjmhiklmlgbifaaGreatDoorW.PrintMore
attribute [local go_sem] max2_int min2_int max_two min_two max_three min_three max_four min_four   -- for this text's walks alone
set_option linter.unusedVariables false
set_option linter.unusedSimpArgs false

theorem lt10 : num_Reader_Take.f leastL 10 0 0 32 = some (List.replicate 32 0, 42, 0, 0) := by decide +kernel
theorem lt43 : num_Reader_Take.f leastL 43 0 0 32 = some (List.replicate 32 0, 75, 0, 0) := by decide +kernel
theorem lv42 : num_short.f 3 (leastL.drop (42 : Int).toNat) = some (0, 1, 0) := by decide +kernel
theorem setCell_self (w : World) (b o : Nat) (v : Value) (c : Array Value) (t : TypeId) (fr : Nat × Nat) (hb : w.heap[b]? = some (.cells c t fr)) (hv : c[o]? = some v) : w.setCell ⟨b, o, none⟩ v = w := by
  have hlt : b < w.heap.size := (Array.getElem?_eq_some_iff.1 hb).1
  have he : w.heap[b] = .cells c t fr := (Array.getElem?_eq_some_iff.1 hb).2
  have hs : c.setIfInBounds o v = c := by
    apply Array.ext_getElem?
    intro i
    rw [Array.getElem?_setIfInBounds]
    split
    · rename_i h; subst h; simp only [(Array.getElem?_eq_some_iff.1 hv).1, if_true]; exact hv.symm
    · rfl
  unfold World.setCell
  cases w with
  | mk heap tape drawn os output =>
    congr 1
    apply Array.ext
    · simp
    · intro k h1 h2
      simp only [Array.getElem_modify]
      split
      · rename_i hk; subst hk; simp at he; simp [he, hs]
      · rfl
theorem setCells_self (w : World) (b : Nat) (c : Array Value) (t : TypeId) (fr : Nat × Nat) (hb : w.heap[b]? = some (.cells c t fr)) : ∀ (vs : List Value) (o : Nat), (∀ j v, vs[j]? = some v → c[o + j]? = some v) → w.setCells b o vs = w
  | [], _, _ => rfl
  | v :: r, o, h => by
    have h0 := h 0 v rfl
    rw [World.setCells, setCell_self w b o v c t fr hb (by simpa using h0)]
    exact setCells_self w b c t fr hb r (o + 1) (fun j u hj => by have := h (j + 1) u (by simpa using hj); rwa [show o + (j + 1) = o + 1 + j from by omega] at this)
theorem ents_at_lo (j : Nat) (hj : j < 32) : Tryz.zeroCells81[0 + j]? = some (.int .u8 0) := by
  rw [ents_is, List.getElem?_toArray, Nat.zero_add, List.getElem?_append_left (by simpa using hj), List.getElem?_map, List.getElem?_replicate, if_pos hj]
  rfl
theorem ents_at_hi (j : Nat) (hj : j < 32) : Tryz.zeroCells81[33 + j]? = some (.int .u8 0) := by
  rw [ents_is, List.getElem?_toArray, List.getElem?_append_right (by simp; omega), List.length_map, List.length_replicate, show 33 + j - 32 = j + 1 from by omega, List.getElem?_cons_succ, List.getElem?_map, List.getElem?_replicate, if_pos hj]
  rfl
theorem copy_noughts (w : World) (b o : Nat) (A : Option Addr) (c : Nat) (hr : Kd.C (Kd.int .u8) w A (List.replicate 32 (0 : Int)).length (List.replicate 32 0)) (hb : w.heap[b]? = some (.cells Tryz.zeroCells81 81 (0, 0))) (he : ∀ j, j < 32 → Tryz.zeroCells81[o + j]? = some (.int .u8 0)) :
    (Builtin.copy_ #[30, 30] 3 #[.slice (some ⟨b, o, none⟩) 32 32, .slice A 32 c]).run Tryz.prog w = .ok (goInt 32) w := by
  obtain ⟨ad, rfl, _⟩ := Kd.at_int hr 0 (by decide) (by decide)
  have hcell : ∀ j, j < 32 → w.cell? ⟨b, o + j, none⟩ = some (.int .u8 0) := fun j hj => (blk_cell hb (o + j)).trans (he j hj)
  have h := run_copy_cells (P := Tryz.prog) w 30 30 3 5 b o 32 32 ad 32 c (List.replicate 32 (.int .u8 0)) Tryz.underlying30 (by kernel_rfl) (by decide) (fun j v hj => by
      have hj2 : j < 32 := by have := (List.getElem?_eq_some_iff.1 hj).1; simpa using this
      have hv : v = .int .u8 0 := by
        have := (List.getElem?_eq_some_iff.1 hj).2
        rw [List.getElem_replicate] at this
        exact this.symm
      obtain ⟨ad', e, hk⟩ := Kd.at_int hr (j : Int) (by omega) (by rw [List.length_replicate]; omega)
      obtain rfl := Option.some.inj e
      have hz : rd (List.replicate 32 (0 : Int)) (j : Int) = 0 := by unfold rd; rw [Int.toNat_natCast, List.getD_eq_getElem?_getD, List.getElem?_replicate, if_pos hj2]; rfl
      rw [hz, Int.toNat_natCast] at hk
      subst hv
      exact hk) (fun j hj => by rw [hcell j (by simpa using hj)]; rfl) (fun j hj => blk_frozen hb _) (fun v hv => by rw [List.eq_of_mem_replicate hv]; rfl)
  rw [setCells_self w b Tryz.zeroCells81 _ _ hb _ o (fun j v hj => by
    have hj2 : j < 32 := by have := (List.getElem?_eq_some_iff.1 hj).1; simpa using this
    have := (List.getElem?_eq_some_iff.1 hj).2
    rw [List.getElem_replicate] at this
    rw [he j hj2, this])] at h
  exact h
set_option maxHeartbeats 4000000 in
set_option maxRecDepth 100000 in
theorem rd_ledTake (g : Nat) (w0 w : World) (hG : ErrT w0) (hI : RD w0 w g leastL 10 0 0) (hB : Below w0.heap.size w0 w) :
    Calls Tryz.prog 95 #[.pointer (some ⟨g, 0, none⟩)] w fun e w' => e = .returned (.agg Tryz.zeroCells81) ∧ RD w0 w' g leastL 75 0 0 ∧ Below w0.heap.size w0 w' ∧ KeepBut w w' g none := by
  have HG := Aside0.mk hG
  have HI := Aside0.mk hI
  have HB := Aside0.mk hB
  have HGW := Aside0.mk hI.lt
  clear hG hI hB
  go_enter Tryz.func95, Tryz.ntmps95
  go_wp2_with fail
  have hal : Below w.heap.size w (w.alloc (.cells Tryz.zeroCells81 81)).drew := below_drew (below_alloc (Below.refl _ _) _)
  have HE1 := Aside0.mk (show (w.alloc (.cells Tryz.zeroCells81 81)).drew.heap[w.heap.size]? = some (.cells Tryz.zeroCells81 81 (0, 0)) from heap_alloc_new w _)
  have HI1 := Aside0.mk (HI.out.below hal)
  have HB1 := Aside0.mk (below_then HB.out HB.out.size hal)
  have HKP2 := Aside0.mk (KeepBut.of_below hal g none)
  clear hal
  refine start_ (n := 5) (S := fun w' => True) (ds := []) #[false, false, false, false, false] (by kernel_rfl) rfl rfl trivial (fun hHeld => ?_)
  generalize (w.alloc (.cells Tryz.zeroCells81 81)).drew = W1 at *
  refine pure_ (i := 0) (N := some 6) (v := ?_) (a' := ?_) #[true, false, false, false, false] rfl rfl (by kernel_rfl) (fun _ _ _ h => h) (Or.inl ⟨by rfl, ?_⟩) ?_ ?_
  rotate_left
  · intro w'
    go_simp
    with_reducible rfl
  rotate_left
  · simp only [Act.put, List.setIfInBounds_toArray, List.set_cons_zero, List.set_cons_succ, i64_w, i32_w]
    rfl
  refine pure_ (i := 1) (N := some 7) (v := ?_) (a' := ?_) #[true, true, false, false, false] rfl rfl (by kernel_rfl) (fun _ _ _ h => h) (Or.inl ⟨by rfl, ?_⟩) ?_ ?_
  rotate_left
  · intro w'
    go_simp
    with_reducible rfl
  rotate_left
  · simp only [Act.put, List.setIfInBounds_toArray, List.set_cons_zero, List.set_cons_succ, i64_w, i32_w]
    rfl
  refine pure_ (i := 2) (N := some 8) (v := ?_) (a' := ?_) #[true, true, true, false, false] rfl rfl (by kernel_rfl) (fun _ _ _ h => h) (Or.inl ⟨by rfl, ?_⟩) ?_ ?_
  rotate_left
  · intro w'
    go_simp
    with_reducible rfl
  rotate_left
  · simp only [Act.put, List.setIfInBounds_toArray, List.set_cons_zero, List.set_cons_succ, i64_w, i32_w]
    rfl
  refine one_ (i := 3) (N := some 9) #[true, true, true, true, false] rfl rfl (by kernel_rfl) (by decide) (fun K hK => ?_)
  refine goes_ Tryz.func127 (by kernel_rfl) rfl #[.pointer (some ⟨g, 0, none⟩), .int .i64 32] (by rfl) rfl rfl (by simp only [List.map_toArray, List.map_cons, List.map_nil]; rfl) ?_
  with_reducible refine (num_Reader_Take.calls g leastL 10 0 0 32 (List.replicate 32 0) 42 0 0 w0 W1 HI1.out HB1.out lt10).mono ?_
  rintro e w2 ⟨v2, rfl, hr, h1, h2, h3⟩
  refine ⟨_, rfl, ?_⟩
  obtain ⟨A2, c2, rfl⟩ := Kd.R_slice hr
  have hrd := (Kd.R_reads' hr).2.2
  have HI2 := Aside0.mk h1
  have HB2 := Aside0.mk h2
  have hbe := (h3.2 w.heap.size (blk_lt HE1.out) (Ne.symm (Nat.ne_of_lt HGW.out)) (by simp)).trans HE1.out
  have HE2 := Aside0.mk hbe
  have HK2 := Aside0.mk (keep_then HKP2.out h3)
  have hcp := copy_noughts w2 w.heap.size 0 A2 c2 hrd hbe (by intro j hj; exact ents_at_lo j hj)
  clear hr h1 h2 h3 hbe hrd
  refine hK.out _ _ trivial (fun hHeld => ?_)
  clear hK K
  refine norm_ (a' := ?_) ?_ ?_
  rotate_left
  · show Act.put _ (some 9) _ = _
    simp only [Act.put, List.setIfInBounds_toArray, List.set_cons_zero, List.set_cons_succ, i64_w, i32_w]
    rfl
  refine one_ (i := 4) (N := some 10) #[true, true, true, true, true] rfl rfl (by kernel_rfl) (by decide) (fun K hK => ?_)
  refine value_ (w1 := ?_) (v := ?_) (by rfl) rfl ?_ ?_
  rotate_left 2
  · go_simp
    constructor
    · rfl
    · rfl
  refine hK.out _ _ trivial (fun hHeld => ?_)
  clear hK K
  refine norm_ (a' := ?_) ?_ ?_
  rotate_left
  · show Act.put _ (some 10) _ = _
    simp only [Act.put, List.setIfInBounds_toArray, List.set_cons_zero, List.set_cons_succ, i64_w, i32_w]
    rfl
  refine done_ (by kernel_rfl) ?_
  go_wp2_with fail
  refine (rd_var 3 g leastL 42 0 1 w0 w2 HI2.out HB2.out (by decide) (by decide) (by decide +kernel) lv42).mono ?_
  rintro e w3 ⟨rfl, h1, h2, h3⟩
  have HI4 := Aside0.mk (show RD w0 w3.drew g leastL 43 0 0 from RD.drew h1)
  have HB4 := Aside0.mk (below_drew h2)
  have HE4 := Aside0.mk (show w3.drew.heap[w.heap.size]? = some (.cells Tryz.zeroCells81 81 (0, 0)) from (h3.2 w.heap.size (blk_lt HE2.out) (Ne.symm (Nat.ne_of_lt HGW.out)) (by simp)).trans HE2.out)
  have HKP5 := Aside0.mk (show KeepBut w w3.drew g none from keep_then HK2.out h3)
  clear h1 h2 h3
  go_wp2_with fail
  refine start_ (n := 5) (S := fun w' => True) (ds := []) #[false, false, false, false, false] (by kernel_rfl) rfl rfl trivial (fun hHeld => ?_)
  generalize w3.drew = W4 at *
  refine pure_ (i := 0) (N := some 13) (v := ?_) (a' := ?_) #[true, false, false, false, false] rfl rfl (by kernel_rfl) (fun _ _ _ h => h) (Or.inl ⟨by rfl, ?_⟩) ?_ ?_
  rotate_left
  · intro w'
    go_simp
    with_reducible rfl
  rotate_left
  · simp only [Act.put, List.setIfInBounds_toArray, List.set_cons_zero, List.set_cons_succ, i64_w, i32_w]
    rfl
  refine pure_ (i := 1) (N := some 14) (v := ?_) (a' := ?_) #[true, true, false, false, false] rfl rfl (by kernel_rfl) (fun _ _ _ h => h) (Or.inl ⟨by rfl, ?_⟩) ?_ ?_
  rotate_left
  · intro w'
    go_simp
    with_reducible rfl
  rotate_left
  · simp only [Act.put, List.setIfInBounds_toArray, List.set_cons_zero, List.set_cons_succ, i64_w, i32_w]
    rfl
  refine pure_ (i := 2) (N := some 15) (v := ?_) (a' := ?_) #[true, true, true, false, false] rfl rfl (by kernel_rfl) (fun _ _ _ h => h) (Or.inl ⟨by rfl, ?_⟩) ?_ ?_
  rotate_left
  · intro w'
    go_simp
    with_reducible rfl
  rotate_left
  · simp only [Act.put, List.setIfInBounds_toArray, List.set_cons_zero, List.set_cons_succ, i64_w, i32_w]
    rfl
  refine one_ (i := 3) (N := some 16) #[true, true, true, true, false] rfl rfl (by kernel_rfl) (by decide) (fun K hK => ?_)
  refine goes_ Tryz.func127 (by kernel_rfl) rfl #[.pointer (some ⟨g, 0, none⟩), .int .i64 32] (by rfl) rfl rfl (by simp only [List.map_toArray, List.map_cons, List.map_nil]; rfl) ?_
  with_reducible refine (num_Reader_Take.calls g leastL 43 0 0 32 (List.replicate 32 0) 75 0 0 w0 W4 HI4.out HB4.out lt43).mono ?_
  rintro e w5 ⟨v5, rfl, hr, h1, h2, h3⟩
  refine ⟨_, rfl, ?_⟩
  obtain ⟨A5, c5, rfl⟩ := Kd.R_slice hr
  have hrd := (Kd.R_reads' hr).2.2
  have HI5 := Aside0.mk h1
  have HB5 := Aside0.mk h2
  have hbe := (h3.2 w.heap.size (blk_lt HE4.out) (Ne.symm (Nat.ne_of_lt HGW.out)) (by simp)).trans HE4.out
  have HE5 := Aside0.mk hbe
  have HK5 := Aside0.mk (keep_then HKP5.out h3)
  have hcp := copy_noughts w5 w.heap.size 33 A5 c5 hrd hbe (by intro j hj; exact ents_at_hi j hj)
  clear hr h1 h2 h3 hbe hrd
  refine hK.out _ _ trivial (fun hHeld => ?_)
  clear hK K
  refine norm_ (a' := ?_) ?_ ?_
  rotate_left
  · show Act.put _ (some 16) _ = _
    simp only [Act.put, List.setIfInBounds_toArray, List.set_cons_zero, List.set_cons_succ, i64_w, i32_w]
    rfl
  refine one_ (i := 4) (N := some 17) #[true, true, true, true, true] rfl rfl (by kernel_rfl) (by decide) (fun K hK => ?_)
  refine value_ (w1 := ?_) (v := ?_) (by rfl) rfl ?_ ?_
  rotate_left 2
  · go_simp
    constructor
    · rfl
    · rfl
  refine hK.out _ _ trivial (fun hHeld => ?_)
  clear hK K
  refine norm_ (a' := ?_) ?_ ?_
  rotate_left
  · show Act.put _ (some 17) _ = _
    simp only [Act.put, List.setIfInBounds_toArray, List.set_cons_zero, List.set_cons_succ, i64_w, i32_w]
    rfl
  refine done_ (by kernel_rfl) ?_
  go_wp2_with fail
  refine (rd_err g leastL 75 0 0 w0 w5 (HG.out.of_below HB5.out) HI5.out).mono ?_
  rintro e w6 ⟨rfl, h1⟩
  have HI6 := Aside0.mk (HI5.out.below h1)
  have HB6 := Aside0.mk (below_then HB5.out HB5.out.size h1)
  have HK6 := Aside0.mk (KeepBut.below_ HK5.out h1)
  have hb6 := (h1.block _ (blk_lt HE5.out)).trans HE5.out
  have hq := (blk_cell hb6 32).trans ents32
  have hf := blk_frozen hb6 32
  have hw1 := setCell_self w6 w.heap.size 32 (.int .i64 0) Tryz.zeroCells81 _ _ hb6 ents32
  have hw2 := setRow_self w6 w.heap.size Tryz.zeroCells81 _ _ hb6
  have HW1 := Aside0.mk hw1
  have HW2 := Aside0.mk hw2
  have HX := Aside0.mk (show (w6.setCell ⟨w.heap.size, 32, none⟩ (.int .i64 0)).heap[w.heap.size]? = some (.cells Tryz.zeroCells81 81 (0, 0)) from by rw [hw1]; exact hb6)
  have HE6 := Aside0.mk hb6
  have hone : Tryz.zeroCells81.all (·.oneCell') = true := by kernel_rfl
  clear h1 hb6 hw1 hw2
  go_wp2_with (first | (refine wpList_load_row rfl 81 (.tmp 2) rfl w.heap.size rfl 81 Tryz.zeroCells81 (0, 0) _ HX.out Tryz.underlying81 rfl (by rw [ents_size]; kernel_rfl) ?_) | (refine wpList_store_row rfl 81 (.tmp 2) (.tmp 33) rfl w.heap.size Tryz.zeroCells81 rfl rfl 81 Tryz.zeroCells81 HX.out (by rw [ents_size]; kernel_rfl) rfl hone ?_))
  rw [HW1.out, HW2.out]
  refine bodyPost_ret (v := .agg Tryz.zeroCells81) (results_cell_row rfl _ _ w.heap.size 81 Tryz.zeroCells81 (0, 0) _ rfl HE6.out Tryz.underlying81 rfl (by rw [ents_size]; kernel_rfl)) rfl ?_
  exact ⟨rfl, HI6.out, HB6.out, HK6.out⟩

end Go.Proofs.YtjmhiklmlgbifaaGreatDoor.PMan
end
section
namespace Go.Proofs.YtjmhiklmlgbifaaGreatDoor.PMan
open Go.RowKit Go.Proofs.YtjmhiklmlgbifaaGreatDoorW.PrintWords Go.Proofs.YtjmhiklmlgbifaaGreatDoorW.PrintLast Go.Proofs.YtjmhiklmlgbifaaGreatDoorW.PrintMore
attribute [local go_sem] max2_int min2_int max_two min_two max_three min_three max_four min_four   -- for this text's walks alone
set_option linter.unusedVariables false
set_option linter.unusedSimpArgs false

/-- What lies before block g. -/
def truncW (W : World) (g : Nat) : World := { W with heap := W.heap.extract 0 g }
theorem truncW_size (W : World) (g : Nat) (h : g ≤ W.heap.size) : (truncW W g).heap.size = g := by
  show (W.heap.extract 0 g).size = g
  rw [Array.size_extract]
  omega
theorem truncW_at (W : World) (g k : Nat) (h : g ≤ W.heap.size) (hk : k < g) : (truncW W g).heap[k]? = W.heap[k]? := by
  show (W.heap.extract 0 g)[k]? = W.heap[k]?
  rw [Array.getElem?_extract, if_pos (by omega), Nat.zero_add]
/-- Numbers that are read at addresses of which no block turned. -/
theorem C_move_int {w0 W : World} {A : Option Addr} {n : Nat} {l : List Int} (h : Kd.C (Kd.int .u8) w0 A n l) (hm : ∀ ad : Addr, A = some ad → 0 < n → W.heap[ad.block]? = w0.heap[ad.block]?) : Kd.C (Kd.int .u8) W A n l := by
  refine ⟨h.1, h.2.1, fun hn => ?_⟩
  obtain ⟨ad, e, hc⟩ := h.2.2 hn
  refine ⟨ad, e, fun j p hj => ?_⟩
  obtain ⟨c, h1, h2, h3⟩ := hc j p hj
  refine ⟨c, h1, h2, fun i u hu => ?_⟩
  refine (World.cell?_of_block (w := w0) ?_).trans (h3 i u hu)
  rw [add_block]
  exact hm ad e hn
/-- A reader without an error; block mb may be written beside it. -/
def RDB (mb : Nat) (W : World) (g : Nat) (l : List Int) (a : Int) : Prop := ∃ w0, RD w0 W g l a 0 0 ∧ Below w0.heap.size w0 W ∧ ErrT w0 ∧ mb < w0.heap.size ∧ 0 ≠ mb
theorem RDB.below {mb : Nat} {W W1 : World} {g : Nat} {l : List Int} {a : Int} (h : RDB mb W g l a) (hb : Below W.heap.size W W1) : RDB mb W1 g l a := by
  obtain ⟨w0, h1, h2, h3, h4, h5⟩ := h
  exact ⟨w0, h1.below hb, below_then h2 h2.size hb, h3, h4, h5⟩
theorem RDB.errT {mb : Nat} {W : World} {g : Nat} {l : List Int} {a : Int} (h : RDB mb W g l a) : ErrT W := by
  obtain ⟨w0, h1, h2, h3, h4, h5⟩ := h
  exact h3.of_below h2
theorem RDB.lt {mb : Nat} {W : World} {g : Nat} {l : List Int} {a : Int} (h : RDB mb W g l a) : mb < g ∧ g < W.heap.size := by
  obtain ⟨w0, h1, h2, h3, h4, h5⟩ := h
  obtain ⟨A, c, ev, k1, k2, k3, k4, k5⟩ := h1
  exact ⟨by omega, blk_lt k1⟩
theorem RDB.store {mb : Nat} {W W1 : World} {g : Nat} {l : List Int} {a : Int} {cs : Array Value} {t : TypeId} (h : RDB mb W g l a) (hl : 0 < l.length) (hm : W.heap[mb]? = some (.cells cs t (0, 0))) (hcs : ∀ (i : Nat) (x : Int), cs[i]? ≠ some (Value.int .u8 x)) (hW : KeepBut W W1 mb none) : RDB mb W1 g l a := by
  obtain ⟨w0, hr, hb, hG, hmb, he⟩ := h
  have hglt := hr.lt
  obtain ⟨A, c, ev, k1, k2, k3, k4, k5⟩ := hr
  have hgm : g ≠ mb := by omega
  have hW1g := hW.2 g hglt hgm (by simp)
  have hgl1 : g ≤ W1.heap.size := by have := hW.1; omega
  have hET := hG.lt
  refine ⟨truncW W1 g, ⟨A, c, ev, hW1g.trans k1, Nat.le_of_eq (truncW_size W1 g hgl1), ?_, k4, ?_⟩, ⟨rfl, rfl, rfl, ?_, ?_⟩, ?_, ?_, he⟩
  · refine C_move_int k3 (fun ad hA hn => ?_)
    obtain ⟨ad', hA', hcell⟩ := Kd.at_int k3 0 (by decide) (by omega)
    have hadd : ad' = ad := by rw [hA] at hA'; exact (Option.some.inj hA').symm
    subst hadd
    have hlt : ad'.block < w0.heap.size := by
      have := World.block_lt_of_cell? _ _ hcell
      rwa [add_block] at this
    have hW0 : W.heap[ad'.block]? = w0.heap[ad'.block]? := hb.block _ hlt
    have hne : ad'.block ≠ mb := fun e => by
      have hcW : W.cell? (ad'.add (Int.toNat 0)) = some (.int .u8 (rd l 0)) := (World.cell?_of_block (w := w0) (by rw [add_block]; exact hW0)).trans hcell
      unfold World.cell? at hcW
      rw [add_block, e, hm] at hcW
      dsimp only at hcW
      split at hcW
      · cases hcW
      · exact hcs _ _ hcW
    exact (truncW_at W1 g _ hgl1 (by omega)).trans ((hW.2 _ (by have := hb.size; omega) hne (by simp)).trans hW0)
  · rcases k5 with ⟨_, _, hev⟩ | ⟨hne, _⟩
    · exact .inl ⟨rfl, rfl, hev⟩
    · exact absurd rfl hne
  · rw [truncW_size W1 g hgl1]; exact hgl1
  · intro k hk
    rw [truncW_size W1 g hgl1] at hk
    exact (truncW_at W1 g k hgl1 hk).symm
  · exact (World.cell?_of_block (w := w0) ((truncW_at W1 g _ hgl1 (by show 0 < g; omega)).trans ((hW.2 _ (by have := hb.size; show 0 < _; omega) he (by simp)).trans (hb.block _ hET)))).trans hG
  · rw [truncW_size W1 g hgl1]; omega
theorem base_call {w w0 W W1 : World} {n g : Nat} (hb : Below w.heap.size w W) (h0 : Below n w0 W) (h1 : Below n w0 W1) (hk : KeepBut W W1 g none) (hg : w.heap.size ≤ g) : Below w.heap.size w W1 :=
  ⟨h1.os.trans (h0.os.symm.trans hb.os), h1.tape.trans (h0.tape.symm.trans hb.tape), h1.output.trans (h0.output.symm.trans hb.output), Nat.le_trans hb.size hk.1,
    fun k hk2 => (hk.2 k (Nat.lt_of_lt_of_le hk2 hb.size) (by omega) (by simp)).trans (hb.block k hk2)⟩
theorem keep_blk {W W1 : World} {g b : Nat} {o : Obj} (hk : KeepBut W W1 g none) (hb : W.heap[b]? = some o) (hne : b ≠ g) : W1.heap[b]? = some o := (hk.2 b (blk_lt hb) hne (by simp)).trans hb

-- The readers' calls as manifest.read makes them: what they leave alone.
def RCall (W W1 : World) (g : Nat) : Prop := KeepBut W W1 g none ∧ ∀ w : World, Below w.heap.size w W → w.heap.size ≤ g → Below w.heap.size w W1
theorem RCall.of_below {W W1 : World} {g : Nat} (h : Below W.heap.size W W1) : RCall W W1 g := ⟨KeepBut.of_below h g none, fun _ hb _ => below_then hb hb.size h⟩
theorem RCall.of {w0 W W1 : World} {g : Nat} (h0 : Below w0.heap.size w0 W) (h1 : Below w0.heap.size w0 W1) (hk : KeepBut W W1 g none) : RCall W W1 g := ⟨hk, fun _ hb hg => base_call hb h0 h1 hk hg⟩
theorem mr_number (mb g : Nat) (a v n a' : Int) (W : World) (ha : a + n = a') (H : RDB mb W g leastL a) (h0 : 0 ≤ a) (h1 : a ≤ leastL.length) (hn : wrap64 (a + n) = a + n) (hf : num_short.f 3 (leastL.drop a.toNat) = some (v, n, 0)) (hv : 0 ≤ v) (hv2 : v ≤ 1099511627776) :
    Calls Tryz.prog 90 #[.pointer (some ⟨g, 0, none⟩)] W fun e w' => e = .returned (.int .i64 v) ∧ RDB mb w' g leastL a' ∧ RCall W w' g := by
  subst ha
  obtain ⟨w0, hI, hB, hG, hm, he⟩ := H
  refine (rd_number 3 g leastL a v n w0 W hI hB h0 h1 hn hf hv hv2).mono ?_
  rintro e w' ⟨rfl, k1, k2, k3⟩
  exact ⟨rfl, ⟨w0, k1, k2, hG, hm, he⟩, RCall.of hB k2 k3⟩
theorem mr_schema (mb g : Nat) (W : World) (H : RDB mb W g leastL 3) :
    Calls Tryz.prog 91 #[.pointer (some ⟨g, 0, none⟩)] W fun e w' => ∃ s c, e = .returned (.slice (some ⟨s, 0, none⟩) 1 c) ∧ 1 ≤ c ∧ Kd.C k123 w' (some ⟨s, 0, none⟩) 1 [⟨1, false, -1⟩] ∧ W.heap.size ≤ s ∧ s < w'.heap.size ∧ RDB mb w' g leastL 7 ∧ RCall W w' g := by
  obtain ⟨w0, hI, hB, hG, hm, he⟩ := H
  refine (rd_takeSchema g w0 W hG hI hB).mono ?_
  rintro e w' ⟨s, c, rfl, k1, k2, k3, k4, k5, k6, k7⟩
  exact ⟨s, c, rfl, k1, k2, k3, k4, ⟨w0, k5, k6, hG, hm, he⟩, RCall.of hB k6 k7⟩
theorem mr_rows (mb s c g : Nat) (W : World) (H : RDB mb W g leastL 8) :
    Calls Tryz.prog 94 #[.pointer (some ⟨g, 0, none⟩), .slice (some ⟨s, 0, none⟩) 1 c] W fun e w' => e = .returned (.slice none 0 0) ∧ RDB mb w' g leastL 9 ∧ RCall W w' g := by
  obtain ⟨w0, hI, hB, hG, hm, he⟩ := H
  refine (rd_takeRows s c g w0 W hG hI hB).mono ?_
  rintro e w' ⟨rfl, k5, k6, k7⟩
  exact ⟨rfl, ⟨w0, k5, k6, hG, hm, he⟩, RCall.of hB k6 k7⟩
theorem mr_entry (mb g : Nat) (W : World) (H : RDB mb W g leastL 10) :
    Calls Tryz.prog 95 #[.pointer (some ⟨g, 0, none⟩)] W fun e w' => e = .returned (.agg Tryz.zeroCells81) ∧ RDB mb w' g leastL 75 ∧ RCall W w' g := by
  obtain ⟨w0, hI, hB, hG, hm, he⟩ := H
  refine (rd_ledTake g w0 W hG hI hB).mono ?_
  rintro e w' ⟨rfl, k5, k6, k7⟩
  exact ⟨rfl, ⟨w0, k5, k6, hG, hm, he⟩, RCall.of hB k6 k7⟩
theorem mr_err (mb g : Nat) (a : Int) (W : World) (H : RDB mb W g leastL a) :
    Calls Tryz.prog 89 #[.pointer (some ⟨g, 0, none⟩)] W fun e w' => e = .returned (.tuple #[.int .i64 0, .int .i64 0]) ∧ Below W.heap.size W w' := by
  have hG := H.errT
  obtain ⟨w0, hI, hB, _, hm, he⟩ := H
  exact rd_err g leastL a 0 0 w0 W hG hI
theorem mr_end (mb g : Nat) (W : World) (H : RDB mb W g leastL 75) :
    Calls Tryz.prog 96 #[.pointer (some ⟨g, 0, none⟩)] W fun e w' => e = .returned (.tuple #[.int .i64 0, .int .i64 0]) ∧ Below W.heap.size W w' := by
  have hG := H.errT
  obtain ⟨w0, hI, hB, _, hm, he⟩ := H
  exact rd_end g leastL 75 w0 W hG hI (by decide +kernel)
abbrev MCells (a b : Int) (S : Value) (m : Int) (E : Value) : Array Value := #[.int .i64 a, .int .i64 b, S, .int .i64 m, .slice none 0 0, .slice none 0 0, E]
theorem mc_no (a b m : Int) (A B : Option Addr) (n c n' c' : Nat) : ∀ (i : Nat) (x : Int), (MCells a b (.slice A n c) m (.slice B n' c'))[i]? ≠ some (Value.int .u8 x) := by
  intro i x h
  rcases i with _ | _ | _ | _ | _ | _ | _ | i <;> simp [MCells] at h
theorem C_move_col {W W1 : World} {s : Nat} {n : Nat} {l : List S123} (h : Kd.C k123 W (some ⟨s, 0, none⟩) n l) (hm : W1.heap[s]? = W.heap[s]?) : Kd.C k123 W1 (some ⟨s, 0, none⟩) n l := by
  refine ⟨h.1, h.2.1, fun hn => ?_⟩
  obtain ⟨ad, e, hc⟩ := h.2.2 hn
  obtain rfl := Option.some.inj e
  refine ⟨_, rfl, fun j p hj => ?_⟩
  obtain ⟨c, h1, h2, h3⟩ := hc j p hj
  refine ⟨c, h1, h2, fun i u hu => ?_⟩
  refine (World.cell?_of_block (w := W) ?_).trans (h3 i u hu)
  rw [add_block]
  exact hm
theorem EntC.move {W W1 : World} {e : Nat} (h : EntC W e) (hm : W1.heap[e]? = W.heap[e]?) : EntC W1 e := fun i x hx => (World.cell?_of_block (w := W) hm).trans (h i x hx)
theorem EntC.of_raw {W : World} {e : Nat} (h : Kd.C (Kd.raw 65) W (some ⟨e, 0, none⟩) 1 [Tryz.zeroCells81.toList]) : EntC W e := fun i x hx => by
  obtain ⟨ad, he, hc⟩ := h.2.2 (by decide)
  obtain rfl := Option.some.inj he
  obtain ⟨c, h1, ⟨h2, _⟩, h3⟩ := hc 0 Tryz.zeroCells81.toList rfl
  subst h2
  have := h3 i x hx
  have hadd : (⟨e, 0, none⟩ : Addr).add (0 * (Kd.raw 65).sz + i) = ⟨e, 0 + i, none⟩ := by
    show (⟨e, 0, none⟩ : Addr).add (0 * 65 + i) = _
    rw [show 0 * 65 + i = i from by omega]
    exact (Addr.add_mid e 0 i).trans (by rw [Nat.zero_add])
  rwa [hadd] at this
theorem results_cr_tmp {P : Program} {fn : Func} {p u : Tmp} {ty : TypeId} (h : fn.results = #[.cell p ty, .tmp u]) (tmps : Array Value) (w : World) (g : Nat) (t : TypeId) (cs : Array Value) (fr : Nat × Nat) (d : TypeDesc)
    (hp : tmps.getD p undef = .pointer (some ⟨g, 0, none⟩)) (hg : w.heap[g]? = some (.cells cs t fr))
    (hu : P.underlying ty = some d) (hd : (match d with | .struct _ | .array _ _ => true | _ => false) = true) (hi : (P.info? ty).map (·.size) = some cs.size) :
    (results fn tmps).run P w = .ok (.tuple #[.agg cs, tmps.getD u undef]) w := by
  have hp' : tmps[p]?.getD undef = .pointer (some ⟨g, 0, none⟩) := by simpa using hp
  simp [results, h, hp', asAddr, run_loadVar_row w g t ty cs fr d hg hu hd hi]
set_option maxHeartbeats 1600000 in
set_option maxRecDepth 100000 in
theorem m_goodf (mb rb g : Nat) (a : Int) (W : World) (H : RDB mb W g leastL a) (hp : W.heap[rb]? = some (.cells #[.pointer (some ⟨g, 0, none⟩)] 146 (0, 0))) :
    Calls Tryz.prog 88 #[.pointer (some ⟨rb, 0, none⟩)] W fun e w' => e = .returned (.bool true) ∧ Below W.heap.size W w' := by
  have HH := Aside0.mk H
  have hrb : W.cell? ⟨rb, 0, none⟩ = some (.pointer (some ⟨g, 0, none⟩)) := blk_cell hp 0
  clear H hp
  go_enter Tryz.func88, Tryz.ntmps88
  go_wp2_with fail
  refine (mr_err mb g a W HH.out).mono ?_
  rintro e w' ⟨rfl, hb⟩
  have HB := Aside0.mk hb
  clear hb
  go_wp2
  go_ret
  exact ⟨rfl, HB.out⟩

end Go.Proofs.YtjmhiklmlgbifaaGreatDoor.PMan
end
section
namespace Go.Proofs.YtjmhiklmlgbifaaGreatDoor.PMan
open Go.RowKit Go.Proofs.YtjmhiklmlgbifaaGreatDoorW.PrintWords Go.Proofs.YtjmhiklmlgbifaaGreatDoorW.PrintLast Go.Proofs.YtjmhiklmlgbifaaGreatDoorW.PrintMore
attribute [local go_sem] max2_int min2_int max_two min_two max_three min_three max_four min_four   -- for this text's walks alone
set_option linter.unusedVariables false
set_option linter.unusedSimpArgs false

theorem lz0 : num_short.f 3 (leastL.drop (0 : Int).toNat) = some (0, 1, 0) := by decide +kernel
theorem lz1 : num_short.f 3 (leastL.drop (1 : Int).toNat) = some (0, 1, 0) := by decide +kernel
theorem lz2 : num_short.f 3 (leastL.drop (2 : Int).toNat) = some (1, 1, 0) := by decide +kernel
theorem lz7 : num_short.f 3 (leastL.drop (7 : Int).toNat) = some (0, 1, 0) := by decide +kernel
theorem lz9 : num_short.f 3 (leastL.drop (9 : Int).toNat) = some (1, 1, 0) := by decide +kernel
set_option maxHeartbeats 8000000 in
set_option maxRecDepth 100000 in
theorem m_read (A0 : Option Addr) (c0 : Nat) (w : World) (hr0 : Kd.C (Kd.int .u8) w A0 leastL.length leastL) (hc0 : leastL.length ≤ c0) (hG : ErrT w) :
    Calls Tryz.prog 54 #[.slice A0 leastL.length c0] w fun ev w' => ∃ s cs e ce, ev = .returned (.tuple #[ManV s cs e ce, .nilIface]) ∧ ManP w' s cs e ce ∧ w.heap.size ≤ s ∧ w.heap.size ≤ e ∧ Below w.heap.size w w' := by
  have HR0 := Aside0.mk hr0
  have HC0 := Aside0.mk hc0
  have HG := Aside0.mk hG
  clear hr0 hc0 hG
  go_enter Tryz.func54, Tryz.ntmps54
  go_wp2_with fail
  have hm0 : (w.alloc (.cells (MCells 0 0 (.slice none 0 0) 0 (.slice none 0 0)) 27)).heap[w.heap.size]? = some (.cells (MCells 0 0 (.slice none 0 0) 0 (.slice none 0 0)) 27 (0, 0)) := heap_alloc_new w _
  have hb0 : Below w.heap.size w (w.alloc (.cells (MCells 0 0 (.slice none 0 0) 0 (.slice none 0 0)) 27)) := below_alloc (Below.refl _ _) _
  have HM0 := Aside0.mk hm0
  have HB0 := Aside0.mk hb0
  have HR1 := Aside0.mk (Kd.C_below HR0.out hb0)
  clear hm0 hb0
  generalize w.alloc (.cells (MCells 0 0 (.slice none 0 0) 0 (.slice none 0 0)) 27) = W0 at *
  refine (rd_new A0 c0 leastL W0 HR1.out HC0.out (by decide)).mono ?_
  rintro e W1 ⟨g, w1, rfl, hrd, h1, h2⟩
  have hal : Below W1.heap.size W1 (W1.alloc (.cells #[.pointer (some ⟨g, 0, none⟩)] 146)).drew := below_drew (below_alloc (Below.refl _ _) _)
  have hW1 : Below W0.heap.size W0 W1 := h1.trans (h2.mono h1.size)
  have hmlt : w.heap.size < W0.heap.size := blk_lt HM0.out
  have hglt := hrd.lt
  have hgge : w1.heap.size ≤ g := by obtain ⟨A, c, ev, k1, k2, k3, k4, k5⟩ := hrd; exact k2
  have HRa := Aside0.mk (RDB.below (show RDB w.heap.size W1 g leastL 0 from ⟨w1, hrd, h2, HG.out.of_below (HB0.out.trans (h1.mono HB0.out.size)), Nat.lt_of_lt_of_le hmlt h1.size, by have := HG.out.lt; omega⟩) hal)
  have HMa := Aside0.mk (show (W1.alloc (.cells #[.pointer (some ⟨g, 0, none⟩)] 146)).drew.heap[w.heap.size]? = _ from (hal.block _ (Nat.lt_of_lt_of_le hmlt hW1.size)).trans ((hW1.block _ hmlt).trans (HM0.out)))
  have HPa := Aside0.mk (show (W1.alloc (.cells #[.pointer (some ⟨g, 0, none⟩)] 146)).drew.heap[W1.heap.size]? = some (.cells #[.pointer (some ⟨g, 0, none⟩)] 146 (0, 0)) from heap_alloc_new W1 _)
  have HBa := Aside0.mk (show Below w.heap.size w (W1.alloc (.cells #[.pointer (some ⟨g, 0, none⟩)] 146)).drew from (HB0.out.trans (hW1.mono HB0.out.size)).trans (hal.mono (Nat.le_trans HB0.out.size hW1.size)))
  have HRG := Aside0.mk (show W1.heap.size ≠ g by omega)
  have HRM := Aside0.mk (show W1.heap.size ≠ w.heap.size by have := hW1.size; omega)
  have HGW := Aside0.mk (show w.heap.size ≤ g by have := HB0.out.size; have := h1.size; omega)
  have HMW := Aside0.mk (show w.heap.size ≤ w.heap.size by omega)
  clear hal hW1 hmlt hglt hgge h1 h2 hrd HM0 HB0 HR1
  go_wp2_with fail
  have hrb : (W1.alloc (.cells #[.pointer (some ⟨g, 0, none⟩)] 146)).drew.cell? ⟨W1.heap.size, 0, none⟩ = some (.pointer (some ⟨g, 0, none⟩)) := blk_cell HPa.out 0
  refine start_ (n := 12) (S := fun w' => w'.cell? ⟨W1.heap.size, 0, none⟩ = some (.pointer (some ⟨g, 0, none⟩))) (ds := []) #[false, false, false, false, false, false, false, false, false, false, false, false] (by kernel_rfl) rfl rfl (hrb) (fun hHeld => ?_)
  generalize (W1.alloc (.cells #[.pointer (some ⟨g, 0, none⟩)] 146)).drew = wa at *
  refine take_ (i := 0) (N := some 15) (v := ?_) (a' := ?_) #[true, false, false, false, false, false, false, false, false, false, false, false] rfl rfl (by kernel_rfl) (fun _ _ _ h => h) (Or.inl ⟨by rfl, ?_⟩) hHeld ?_ ?_
  rotate_left
  · intro w' s0
    go_simp
    with_reducible rfl
  rotate_left
  · simp only [Act.put, List.setIfInBounds_toArray, List.set_cons_zero, List.set_cons_succ, i64_w, i32_w]
    rfl
  refine take_ (i := 2) (N := some 17) (v := ?_) (a' := ?_) #[true, false, true, false, false, false, false, false, false, false, false, false] rfl rfl (by kernel_rfl) (fun _ _ _ h => h) (Or.inl ⟨by rfl, ?_⟩) hHeld ?_ ?_
  rotate_left
  · intro w' s0
    go_simp
    with_reducible rfl
  rotate_left
  · simp only [Act.put, List.setIfInBounds_toArray, List.set_cons_zero, List.set_cons_succ, i64_w, i32_w]
    rfl
  refine take_ (i := 4) (N := some 19) (v := ?_) (a' := ?_) #[true, false, true, false, true, false, false, false, false, false, false, false] rfl rfl (by kernel_rfl) (fun _ _ _ h => h) (Or.inl ⟨by rfl, ?_⟩) hHeld ?_ ?_
  rotate_left
  · intro w' s0
    go_simp
    with_reducible rfl
  rotate_left
  · simp only [Act.put, List.setIfInBounds_toArray, List.set_cons_zero, List.set_cons_succ, i64_w, i32_w]
    rfl
  refine one_ (i := 1) (N := some 16) #[true, true, true, false, true, false, false, false, false, false, false, false] rfl rfl (by kernel_rfl) (by decide) (fun K hK => ?_)
  refine goes_ Tryz.func90 (by kernel_rfl) rfl #[.pointer (some ⟨g, 0, none⟩)] (by rfl) rfl rfl (by simp only [List.map_toArray, List.map_cons, List.map_nil]; rfl) ?_
  with_reducible refine (mr_number w.heap.size g 0 0 1 1 wa rfl HRa.out (by decide) (by decide) (by decide +kernel) lz0 (by decide) (by decide)).mono ?_
  rintro e wb ⟨rfl, hR, hK⟩
  refine ⟨_, rfl, ?_⟩
  have HRb := Aside0.mk hR
  have HMb := Aside0.mk (keep_blk hK.1 HMa.out (Nat.ne_of_lt hR.lt.1))
  have HPb := Aside0.mk (keep_blk hK.1 HPa.out HRG.out)
  have HBb := Aside0.mk (hK.2 w HBa.out HGW.out)
  have hrb : wb.cell? ⟨W1.heap.size, 0, none⟩ = some (.pointer (some ⟨g, 0, none⟩)) := blk_cell HPb.out 0
  clear hR hK
  refine hK.out _ _ (hrb) (fun hHeld => ?_)
  clear hK K
  refine norm_ (a' := ?_) ?_ ?_
  rotate_left
  · show Act.put _ (some 16) _ = _
    simp only [Act.put, List.setIfInBounds_toArray, List.set_cons_zero, List.set_cons_succ, i64_w, i32_w]
    rfl
  refine pure_ (i := 6) (N := some 21) (v := ?_) (a' := ?_) #[true, true, true, false, true, false, true, false, false, false, false, false] rfl rfl (by kernel_rfl) (fun _ _ _ h => h) (Or.inl ⟨by rfl, ?_⟩) ?_ ?_
  rotate_left
  · intro w'
    go_simp
    with_reducible rfl
  rotate_left
  · simp only [Act.put, List.setIfInBounds_toArray, List.set_cons_zero, List.set_cons_succ, i64_w, i32_w]
    rfl
  refine one_ (i := 3) (N := some 18) #[true, true, true, true, true, false, true, false, false, false, false, false] rfl rfl (by kernel_rfl) (by decide) (fun K hK => ?_)
  refine goes_ Tryz.func90 (by kernel_rfl) rfl #[.pointer (some ⟨g, 0, none⟩)] (by rfl) rfl rfl (by simp only [List.map_toArray, List.map_cons, List.map_nil]; rfl) ?_
  with_reducible refine (mr_number w.heap.size g 1 0 1 2 wb rfl HRb.out (by decide) (by decide) (by decide +kernel) lz1 (by decide) (by decide)).mono ?_
  rintro e wc ⟨rfl, hR, hK⟩
  refine ⟨_, rfl, ?_⟩
  have HRc := Aside0.mk hR
  have HMc := Aside0.mk (keep_blk hK.1 HMb.out (Nat.ne_of_lt hR.lt.1))
  have HPc := Aside0.mk (keep_blk hK.1 HPb.out HRG.out)
  have HBc := Aside0.mk (hK.2 w HBb.out HGW.out)
  have hrb : wc.cell? ⟨W1.heap.size, 0, none⟩ = some (.pointer (some ⟨g, 0, none⟩)) := blk_cell HPc.out 0
  clear hR hK
  refine hK.out _ _ (hrb) (fun hHeld => ?_)
  clear hK K
  refine norm_ (a' := ?_) ?_ ?_
  rotate_left
  · show Act.put _ (some 18) _ = _
    simp only [Act.put, List.setIfInBounds_toArray, List.set_cons_zero, List.set_cons_succ, i64_w, i32_w]
    rfl
  refine one_ (i := 5) (N := some 20) #[true, true, true, true, true, true, true, false, false, false, false, false] rfl rfl (by kernel_rfl) (by decide) (fun K hK => ?_)
  refine goes_ Tryz.func90 (by kernel_rfl) rfl #[.pointer (some ⟨g, 0, none⟩)] (by rfl) rfl rfl (by simp only [List.map_toArray, List.map_cons, List.map_nil]; rfl) ?_
  with_reducible refine (mr_number w.heap.size g 2 1 1 3 wc rfl HRc.out (by decide) (by decide) (by decide +kernel) lz2 (by decide) (by decide)).mono ?_
  rintro e wd ⟨rfl, hR, hK⟩
  refine ⟨_, rfl, ?_⟩
  have HRd := Aside0.mk hR
  have HMd := Aside0.mk (keep_blk hK.1 HMc.out (Nat.ne_of_lt hR.lt.1))
  have HPd := Aside0.mk (keep_blk hK.1 HPc.out HRG.out)
  have HBd := Aside0.mk (hK.2 w HBc.out HGW.out)
  have hrb : wd.cell? ⟨W1.heap.size, 0, none⟩ = some (.pointer (some ⟨g, 0, none⟩)) := blk_cell HPd.out 0
  clear hR hK
  have qm : wd.cell? ⟨w.heap.size, 0, none⟩ = some (.int .i64 0) := blk_cell HMd.out 0
  have qf := blk_frozen HMd.out 0
  refine hK.out _ _ (hrb) (fun hHeld => ?_)
  clear hK K
  refine norm_ (a' := ?_) ?_ ?_
  rotate_left
  · show Act.put _ (some 20) _ = _
    simp only [Act.put, List.setIfInBounds_toArray, List.set_cons_zero, List.set_cons_succ, i64_w, i32_w]
    rfl
  refine one_ (i := 7) (N := none) #[true, true, true, true, true, true, true, true, false, false, false, false] rfl rfl (by kernel_rfl) (by decide) (fun K hK => ?_)
  refine skip_ (w1 := ?_) (by rfl) rfl ?_ ?_
  rotate_left
  · go_simp
    rfl
  have hst : KeepBut wd (wd.setCell ⟨w.heap.size, 0, none⟩ (.int .i64 0)) w.heap.size none := (KeepBut.refl _ _ _).set_ 0 _
  have HRe := Aside0.mk (HRd.out.store (by decide) HMd.out (mc_no _ _ _ _ _ _ _ _ _) hst)
  have HMe := Aside0.mk (show (wd.setCell ⟨w.heap.size, 0, none⟩ (.int .i64 0)).heap[w.heap.size]? = some (.cells (MCells 0 0 (.slice none 0 0) 0 (.slice none 0 0)) 27 (0, 0)) from by simpa [MCells] using blk_set HMd.out 0 (.int .i64 0))
  have HPe := Aside0.mk (keep_blk hst HPd.out HRM.out)
  have HBe := Aside0.mk (show Below w.heap.size w (wd.setCell ⟨w.heap.size, 0, none⟩ (.int .i64 0)) from HBd.out.setCell (Nat.le_refl _) _)
  generalize hws : wd.setCell ⟨w.heap.size, 0, none⟩ (.int .i64 0) = we at *
  have hrb : we.cell? ⟨W1.heap.size, 0, none⟩ = some (.pointer (some ⟨g, 0, none⟩)) := blk_cell HPe.out 0
  have qm : we.cell? ⟨w.heap.size, 1, none⟩ = some (.int .i64 0) := blk_cell HMe.out 1
  have qf := blk_frozen HMe.out 1
  refine hK.out _ _ (hrb) (fun hHeld => ?_)
  clear hK K
  refine pure_ (i := 8) (N := some 22) (v := ?_) (a' := ?_) #[true, true, true, true, true, true, true, true, true, false, false, false] rfl rfl (by kernel_rfl) (fun _ _ _ h => h) (Or.inl ⟨by rfl, ?_⟩) ?_ ?_
  rotate_left
  · intro w'
    go_simp
    with_reducible rfl
  rotate_left
  · simp only [Act.put, List.setIfInBounds_toArray, List.set_cons_zero, List.set_cons_succ, i64_w, i32_w]
    rfl
  refine one_ (i := 9) (N := none) #[true, true, true, true, true, true, true, true, true, true, false, false] rfl rfl (by kernel_rfl) (by decide) (fun K hK => ?_)
  refine skip_ (w1 := ?_) (by rfl) rfl ?_ ?_
  rotate_left
  · go_simp
    rfl
  have hst : KeepBut we (we.setCell ⟨w.heap.size, 1, none⟩ (.int .i64 0)) w.heap.size none := (KeepBut.refl _ _ _).set_ 1 _
  have HRf := Aside0.mk (HRe.out.store (by decide) HMe.out (mc_no _ _ _ _ _ _ _ _ _) hst)
  have HMf := Aside0.mk (show (we.setCell ⟨w.heap.size, 1, none⟩ (.int .i64 0)).heap[w.heap.size]? = some (.cells (MCells 0 0 (.slice none 0 0) 0 (.slice none 0 0)) 27 (0, 0)) from by simpa [MCells] using blk_set HMe.out 1 (.int .i64 0))
  have HPf := Aside0.mk (keep_blk hst HPe.out HRM.out)
  have HBf := Aside0.mk (show Below w.heap.size w (we.setCell ⟨w.heap.size, 1, none⟩ (.int .i64 0)) from HBe.out.setCell (Nat.le_refl _) _)
  generalize hws : we.setCell ⟨w.heap.size, 1, none⟩ (.int .i64 0) = wf at *
  have hrb : wf.cell? ⟨W1.heap.size, 0, none⟩ = some (.pointer (some ⟨g, 0, none⟩)) := blk_cell HPf.out 0
  have qm : wf.cell? ⟨w.heap.size, 3, none⟩ = some (.int .i64 0) := blk_cell HMf.out 3
  have qf := blk_frozen HMf.out 3
  refine hK.out _ _ (hrb) (fun hHeld => ?_)
  clear hK K
  refine pure_ (i := 10) (N := some 23) (v := ?_) (a' := ?_) #[true, true, true, true, true, true, true, true, true, true, true, false] rfl rfl (by kernel_rfl) (fun _ _ _ h => h) (Or.inl ⟨by rfl, ?_⟩) ?_ ?_
  rotate_left
  · intro w'
    go_simp
    with_reducible rfl
  rotate_left
  · simp only [Act.put, List.setIfInBounds_toArray, List.set_cons_zero, List.set_cons_succ, i64_w, i32_w]
    rfl
  refine one_ (i := 11) (N := none) #[true, true, true, true, true, true, true, true, true, true, true, true] rfl rfl (by kernel_rfl) (by decide) (fun K hK => ?_)
  refine skip_ (w1 := ?_) (by rfl) rfl ?_ ?_
  rotate_left
  · go_simp
    rfl
  have hst : KeepBut wf (wf.setCell ⟨w.heap.size, 3, none⟩ (.int .i64 1)) w.heap.size none := (KeepBut.refl _ _ _).set_ 3 _
  have HRh := Aside0.mk (HRf.out.store (by decide) HMf.out (mc_no _ _ _ _ _ _ _ _ _) hst)
  have HMh := Aside0.mk (show (wf.setCell ⟨w.heap.size, 3, none⟩ (.int .i64 1)).heap[w.heap.size]? = some (.cells (MCells 0 0 (.slice none 0 0) 1 (.slice none 0 0)) 27 (0, 0)) from by simpa [MCells] using blk_set HMf.out 3 (.int .i64 1))
  have HPh := Aside0.mk (keep_blk hst HPf.out HRM.out)
  have HBh := Aside0.mk (show Below w.heap.size w (wf.setCell ⟨w.heap.size, 3, none⟩ (.int .i64 1)) from HBf.out.setCell (Nat.le_refl _) _)
  generalize hws : wf.setCell ⟨w.heap.size, 3, none⟩ (.int .i64 1) = wh at *
  have hrb : wh.cell? ⟨W1.heap.size, 0, none⟩ = some (.pointer (some ⟨g, 0, none⟩)) := blk_cell HPh.out 0
  refine hK.out _ _ (hrb) (fun hHeld => ?_)
  clear hK K
  refine done_ (by kernel_rfl) ?_
  go_wp2_with fail
  refine (mr_schema w.heap.size g wh HRh.out).mono ?_
  rintro e wi ⟨sb, cs, rfl, hcs, hC, hs1, hs2, hR, hK⟩
  have HRi := Aside0.mk hR
  have HMi := Aside0.mk (keep_blk hK.1 HMh.out (Nat.ne_of_lt hR.lt.1))
  have HPi := Aside0.mk (keep_blk hK.1 HPh.out HRG.out)
  have HBi := Aside0.mk (hK.2 w HBh.out HGW.out)
  have hrb : wi.cell? ⟨W1.heap.size, 0, none⟩ = some (.pointer (some ⟨g, 0, none⟩)) := blk_cell HPi.out 0
  have HCS := Aside0.mk hcs
  have HSW := Aside0.mk (show w.heap.size ≤ sb from Nat.le_trans HBh.out.size hs1)
  have HSG := Aside0.mk (show sb ≠ g by have := HRh.out.lt.2; omega)
  have HSM := Aside0.mk (show sb ≠ w.heap.size by have := blk_lt HMh.out; omega)
  have HCi := Aside0.mk hC
  have HSi := Aside0.mk hs2
  clear hcs hC hs1 hs2 hR hK
  have qm : wi.cell? ⟨w.heap.size, 2, none⟩ = some (.slice none 0 0) := blk_cell HMi.out 2
  have qf := blk_frozen HMi.out 2
  have hst : KeepBut wi (wi.setCell ⟨w.heap.size, 2, none⟩ (.slice (some ⟨sb, 0, none⟩) 1 cs)) w.heap.size none := (KeepBut.refl _ _ _).set_ 2 _
  have HRj := Aside0.mk (HRi.out.store (by decide) HMi.out (mc_no _ _ _ _ _ _ _ _ _) hst)
  have HMj := Aside0.mk (show (wi.setCell ⟨w.heap.size, 2, none⟩ (.slice (some ⟨sb, 0, none⟩) 1 cs)).heap[w.heap.size]? = some (.cells (MCells 0 0 (.slice (some ⟨sb, 0, none⟩) 1 cs) 1 (.slice none 0 0)) 27 (0, 0)) from by simpa [MCells] using blk_set HMi.out 2 (.slice (some ⟨sb, 0, none⟩) 1 cs))
  have HPj := Aside0.mk (keep_blk hst HPi.out HRM.out)
  have HBj := Aside0.mk (show Below w.heap.size w (wi.setCell ⟨w.heap.size, 2, none⟩ (.slice (some ⟨sb, 0, none⟩) 1 cs)) from HBi.out.setCell (Nat.le_refl _) _)
  have hrb : (wi.setCell ⟨w.heap.size, 2, none⟩ (.slice (some ⟨sb, 0, none⟩) 1 cs)).cell? ⟨W1.heap.size, 0, none⟩ = some (.pointer (some ⟨g, 0, none⟩)) := blk_cell HPj.out 0
  have HSj := Aside0.mk (Nat.lt_of_lt_of_le HSi.out hst.1)
  have HCj := Aside0.mk (C_move_col HCi.out ((hst.2 sb HSi.out HSM.out (by simp))))
  go_wp2_with fail
  generalize hws : wi.setCell ⟨w.heap.size, 2, none⟩ (.slice (some ⟨sb, 0, none⟩) 1 cs) = wj at *
  refine (mr_number w.heap.size g 7 0 1 8 wj rfl HRj.out (by decide) (by decide) (by decide +kernel) lz7 (by decide) (by decide)).mono ?_
  rintro e wk ⟨rfl, hR, hK⟩
  have HRk := Aside0.mk hR
  have HMk := Aside0.mk (keep_blk hK.1 HMj.out (Nat.ne_of_lt hR.lt.1))
  have HPk := Aside0.mk (keep_blk hK.1 HPj.out HRG.out)
  have HBk := Aside0.mk (hK.2 w HBj.out HGW.out)
  have hrb : wk.cell? ⟨W1.heap.size, 0, none⟩ = some (.pointer (some ⟨g, 0, none⟩)) := blk_cell HPk.out 0
  have HCk := Aside0.mk (C_move_col HCj.out (hK.1.2 sb HSj.out HSG.out (by simp)))
  have HSk := Aside0.mk (Nat.lt_of_lt_of_le HSj.out hK.1.1)
  clear hR hK
  have q2 : wk.cell? ⟨w.heap.size, 2, none⟩ = some (.slice (some ⟨sb, 0, none⟩) 1 cs) := blk_cell HMk.out 2
  go_wp2_with fail
  refine wp_loop_rounds 1 ?_
  rw [rounds_succ]
  go_wp2_with fail
  refine (mr_rows w.heap.size sb cs g wk HRk.out).mono ?_
  rintro e wl ⟨rfl, hR, hK⟩
  have HRl := Aside0.mk hR
  have HMl := Aside0.mk (keep_blk hK.1 HMk.out (Nat.ne_of_lt hR.lt.1))
  have HPl := Aside0.mk (keep_blk hK.1 HPk.out HRG.out)
  have HBl := Aside0.mk (hK.2 w HBk.out HGW.out)
  have hrb : wl.cell? ⟨W1.heap.size, 0, none⟩ = some (.pointer (some ⟨g, 0, none⟩)) := blk_cell HPl.out 0
  have HCl := Aside0.mk (C_move_col HCk.out (hK.1.2 sb HSk.out HSG.out (by simp)))
  have HSl := Aside0.mk (Nat.lt_of_lt_of_le HSk.out hK.1.1)
  clear hR hK
  have q5 : wl.cell? ⟨w.heap.size, 5, none⟩ = some (.slice none 0 0) := blk_cell HMl.out 5
  have qm : wl.cell? ⟨w.heap.size, 5, none⟩ = some (.slice none 0 0) := blk_cell HMl.out 5
  have qf := blk_frozen HMl.out 5
  have hst : KeepBut wl (wl.setCell ⟨w.heap.size, 5, none⟩ (.slice none 0 0)) w.heap.size none := (KeepBut.refl _ _ _).set_ 5 _
  have HRm := Aside0.mk (HRl.out.store (by decide) HMl.out (mc_no _ _ _ _ _ _ _ _ _) hst)
  have HMm := Aside0.mk (show (wl.setCell ⟨w.heap.size, 5, none⟩ (.slice none 0 0)).heap[w.heap.size]? = some (.cells (MCells 0 0 (.slice (some ⟨sb, 0, none⟩) 1 cs) 1 (.slice none 0 0)) 27 (0, 0)) from by simpa [MCells] using blk_set HMl.out 5 (.slice none 0 0))
  have HPm := Aside0.mk (keep_blk hst HPl.out HRM.out)
  have HBm := Aside0.mk (show Below w.heap.size w (wl.setCell ⟨w.heap.size, 5, none⟩ (.slice none 0 0)) from HBl.out.setCell (Nat.le_refl _) _)
  have hrb : (wl.setCell ⟨w.heap.size, 5, none⟩ (.slice none 0 0)).cell? ⟨W1.heap.size, 0, none⟩ = some (.pointer (some ⟨g, 0, none⟩)) := blk_cell HPm.out 0
  have HSm := Aside0.mk (Nat.lt_of_lt_of_le HSl.out hst.1)
  have HCm := Aside0.mk (C_move_col HCl.out ((hst.2 sb HSl.out HSM.out (by simp))))
  go_wp2_with fail
  generalize hws : wl.setCell ⟨w.heap.size, 5, none⟩ (.slice none 0 0) = wm at *
  refine (mr_number w.heap.size g 9 1 1 10 wm rfl HRm.out (by decide) (by decide) (by decide +kernel) lz9 (by decide) (by decide)).mono ?_
  rintro e wn ⟨rfl, hR, hK⟩
  have HRn := Aside0.mk hR
  have HMn := Aside0.mk (keep_blk hK.1 HMm.out (Nat.ne_of_lt hR.lt.1))
  have HPn := Aside0.mk (keep_blk hK.1 HPm.out HRG.out)
  have HBn := Aside0.mk (hK.2 w HBm.out HGW.out)
  have hrb : wn.cell? ⟨W1.heap.size, 0, none⟩ = some (.pointer (some ⟨g, 0, none⟩)) := blk_cell HPn.out 0
  have HCn := Aside0.mk (C_move_col HCm.out (hK.1.2 sb HSm.out HSG.out (by simp)))
  have HSn := Aside0.mk (Nat.lt_of_lt_of_le HSm.out hK.1.1)
  clear hR hK
  go_wp2_with fail
  refine wp_loop_rounds 2 ?_
  rw [rounds_succ]
  go_wp2_with fail
  refine (m_goodf w.heap.size W1.heap.size g 10 wn HRn.out HPn.out).mono ?_
  rintro e wo ⟨rfl, hb⟩
  have hR := HRn.out.below hb
  have hK : RCall wn wo g := RCall.of_below hb
  have HRo := Aside0.mk hR
  have HMo := Aside0.mk (keep_blk hK.1 HMn.out (Nat.ne_of_lt hR.lt.1))
  have HPo := Aside0.mk (keep_blk hK.1 HPn.out HRG.out)
  have HBo := Aside0.mk (hK.2 w HBn.out HGW.out)
  have hrb : wo.cell? ⟨W1.heap.size, 0, none⟩ = some (.pointer (some ⟨g, 0, none⟩)) := blk_cell HPo.out 0
  have HCo := Aside0.mk (C_move_col HCn.out (hb.block sb HSn.out))
  have HSo := Aside0.mk (Nat.lt_of_lt_of_le HSn.out hb.size)
  clear hR hK hb
  go_wp2_with fail
  have hrb : wo.drew.cell? ⟨W1.heap.size, 0, none⟩ = some (.pointer (some ⟨g, 0, none⟩)) := blk_cell (show wo.drew.heap[W1.heap.size]? = _ from HPo.out) 0
  have hq6 : wo.drew.cell? ⟨w.heap.size, 6, none⟩ = some (.slice none 0 0) := blk_cell (show wo.drew.heap[w.heap.size]? = _ from HMo.out) 6
  have HRp := Aside0.mk (HRo.out.below (below_drew (Below.refl _ wo)))
  have HMp := Aside0.mk (show wo.drew.heap[w.heap.size]? = some (.cells (MCells 0 0 (.slice (some ⟨sb, 0, none⟩) 1 cs) 1 (.slice none 0 0)) 27 (0, 0)) from HMo.out)
  have HPp := Aside0.mk (show wo.drew.heap[W1.heap.size]? = some (.cells #[.pointer (some ⟨g, 0, none⟩)] 146 (0, 0)) from HPo.out)
  have HBp := Aside0.mk (below_drew HBo.out)
  have HCp := Aside0.mk (show Kd.C k123 wo.drew (some ⟨sb, 0, none⟩) 1 [⟨1, false, -1⟩] from HCo.out)
  have HSp := Aside0.mk (show sb < wo.drew.heap.size from HSo.out)
  refine start_ (n := 8) (S := fun w' => w'.cell? ⟨W1.heap.size, 0, none⟩ = some (.pointer (some ⟨g, 0, none⟩)) ∧ w'.cell? ⟨w.heap.size, 6, none⟩ = some (.slice none 0 0)) (ds := [7]) #[false, false, false, false, false, false, false, false] (by kernel_rfl) rfl rfl ⟨hrb, hq6⟩ (fun hHeld => ?_)
  generalize wo.drew = wp at *
  refine pure_ (i := 0) (N := some 68) (v := ?_) (a' := ?_) #[true, false, false, false, false, false, false, false] rfl rfl (by kernel_rfl) (fun _ _ _ h => h) (Or.inl ⟨by rfl, ?_⟩) ?_ ?_
  rotate_left
  · intro w'
    go_simp
    with_reducible rfl
  rotate_left
  · simp only [Act.put, List.setIfInBounds_toArray, List.set_cons_zero, List.set_cons_succ, i64_w, i32_w]
    rfl
  refine take_ (i := 1) (N := some 69) (v := ?_) (a' := ?_) #[true, true, false, false, false, false, false, false] rfl rfl (by kernel_rfl) (fun _ _ _ h => h) (Or.inl ⟨by rfl, ?_⟩) hHeld ?_ ?_
  rotate_left
  · rintro w' ⟨s0, s1⟩
    go_simp
    with_reducible rfl
  rotate_left
  · simp only [Act.put, List.setIfInBounds_toArray, List.set_cons_zero, List.set_cons_succ, i64_w, i32_w]
    rfl
  refine take_ (i := 2) (N := some 70) (v := ?_) (a' := ?_) #[true, true, true, false, false, false, false, false] rfl rfl (by kernel_rfl) (fun _ _ _ h => h) (Or.inl ⟨by rfl, ?_⟩) hHeld ?_ ?_
  rotate_left
  · rintro w' ⟨s0, s1⟩
    go_simp
    with_reducible rfl
  rotate_left
  · simp only [Act.put, List.setIfInBounds_toArray, List.set_cons_zero, List.set_cons_succ, i64_w, i32_w]
    rfl
  refine one_ (i := 3) (N := some 71) #[true, true, true, true, false, false, false, false] rfl rfl (by kernel_rfl) (by decide) (fun K hK => ?_)
  refine goes_ Tryz.func95 (by kernel_rfl) rfl #[.pointer (some ⟨g, 0, none⟩)] (by rfl) rfl rfl (by simp only [List.map_toArray, List.map_cons, List.map_nil]; rfl) ?_
  with_reducible refine (mr_entry w.heap.size g wp HRp.out).mono ?_
  rintro e wq ⟨rfl, hR, hK⟩
  refine ⟨_, rfl, ?_⟩
  have HRq := Aside0.mk hR
  have HMq := Aside0.mk (keep_blk hK.1 HMp.out (Nat.ne_of_lt hR.lt.1))
  have HPq := Aside0.mk (keep_blk hK.1 HPp.out HRG.out)
  have HBq := Aside0.mk (hK.2 w HBp.out HGW.out)
  have hrb : wq.cell? ⟨W1.heap.size, 0, none⟩ = some (.pointer (some ⟨g, 0, none⟩)) := blk_cell HPq.out 0
  have HCq := Aside0.mk (C_move_col HCp.out (hK.1.2 sb HSp.out HSG.out (by simp)))
  have HSq := Aside0.mk (Nat.lt_of_lt_of_le HSp.out hK.1.1)
  have hq6 : wq.cell? ⟨w.heap.size, 6, none⟩ = some (.slice none 0 0) := blk_cell HMq.out 6
  clear hR hK
  refine hK.out _ _ ⟨hrb, hq6⟩ (fun hHeld => ?_)
  clear hK K
  refine norm_ (a' := ?_) ?_ ?_
  rotate_left
  · show Act.put _ (some 71) _ = _
    simp only [Act.put, List.setIfInBounds_toArray, List.set_cons_zero, List.set_cons_succ, i64_w, i32_w]
    rfl
  refine one_ (i := 4) (N := some 72) #[true, true, true, true, true, false, false, false] rfl rfl (by kernel_rfl) (by decide) (fun K hK => ?_)
  refine value_ (w1 := ?_) (v := ?_) (by rfl) rfl ?_ ?_
  rotate_left 2
  · show _ = Result.ok (Next.value (Value.slice (some ⟨wq.heap.size, 0, none⟩) 1 1)) (wq.alloc (.cells Tryz.zeroCells81 81))
    kernel_rfl
  have hba : Below wq.heap.size wq (wq.alloc (.cells Tryz.zeroCells81 81)) := below_alloc (Below.refl _ _) _
  have hrb := pw_cell_below hba hrb
  have hq6 := pw_cell_below hba hq6
  have hone : ∀ u ∈ Tryz.zeroCells81.toList, u.oneCell' = true := fun u hu => List.all_eq_true.1 (show Tryz.zeroCells81.toList.all (·.oneCell') = true from by kernel_rfl) u hu
  refine hK.out _ _ ⟨hrb, hq6⟩ (fun hHeld => ?_)
  clear hK K
  refine norm_ (a' := ?_) ?_ ?_
  rotate_left
  · show Act.put _ (some 72) _ = _
    simp only [Act.put, List.setIfInBounds_toArray, List.set_cons_zero, List.set_cons_succ, i64_w, i32_w]
    rfl
  refine one_ (i := 5) (N := some 73) #[true, true, true, true, true, true, false, false] rfl rfl (by kernel_rfl) (by decide) (fun K hK => ?_)
  refine Kd.R_append_step (Kd.raw 65) (w0 := wq) wq.heap.size (by rfl) (.tmp 69) (.tmp 72) 25 81 (.agg Tryz.zeroCells81) 72 rfl Tryz.underlying25 (by kernel_rfl) (by kernel_rfl) (by decide) (by decide) (.slice none 0 0) [] Tryz.zeroCells81.toList Tryz.zeroCells81.toList (fun _ => True) (fun _ => False) rfl rfl ⟨rfl, by kernel_rfl, hone⟩ (fun _ h => h.elim) (fun _ _ => trivial) (Kd.R_nil _ _ _ _ _) (Below.refl _ _) (Nat.le_refl _) (by decide) ?_
  intro v5 wr ho hbr _ _
  obtain ⟨eb, ce, rfl, _⟩ := Kd.R_form ho (by simp)
  have hrd := Kd.R_reads' ho
  have HCE := Aside0.mk hrd.2.1
  have HEr := Aside0.mk (EntC.of_raw hrd.2.2)
  have HEL := Aside0.mk (Kd.R_lt ho eb rfl)
  have heb := Kd.R_base ho eb rfl
  have HEW := Aside0.mk (show w.heap.size ≤ eb from Nat.le_trans HBq.out.size heb)
  have HRr := Aside0.mk (HRq.out.below hbr)
  have HMr := Aside0.mk ((hbr.block _ (blk_lt HMq.out)).trans HMq.out)
  have HPr := Aside0.mk ((hbr.block _ (blk_lt HPq.out)).trans HPq.out)
  have HBr := Aside0.mk (below_then HBq.out HBq.out.size hbr)
  have HCr := Aside0.mk (C_move_col HCq.out (hbr.block sb HSq.out))
  have HSr := Aside0.mk (Nat.lt_of_lt_of_le HSq.out hbr.size)
  have HEG := Aside0.mk (show eb ≠ g by have := HRq.out.lt.2; omega)
  have HEM := Aside0.mk (show eb ≠ w.heap.size by have := blk_lt HMq.out; omega)
  have hrb : wr.cell? ⟨W1.heap.size, 0, none⟩ = some (.pointer (some ⟨g, 0, none⟩)) := blk_cell HPr.out 0
  have hq6 : wr.cell? ⟨w.heap.size, 6, none⟩ = some (.slice none 0 0) := blk_cell HMr.out 6
  have qf := blk_frozen HMr.out 6
  clear ho hbr hrd heb
  refine hK.out _ _ ⟨hrb, hq6⟩ (fun hHeld => ?_)
  clear hK K
  refine norm_ (a' := ?_) ?_ ?_
  rotate_left
  · show Act.put _ (some 73) _ = _
    simp only [Act.put, List.setIfInBounds_toArray, List.set_cons_zero, List.set_cons_succ, i64_w, i32_w]
    rfl
  refine pure_ (i := 6) (N := some 74) (v := ?_) (a' := ?_) #[true, true, true, true, true, true, true, false] rfl rfl (by kernel_rfl) (fun _ _ _ h => h) (Or.inl ⟨by rfl, ?_⟩) ?_ ?_
  rotate_left
  · intro w'
    go_simp
    with_reducible rfl
  rotate_left
  · simp only [Act.put, List.setIfInBounds_toArray, List.set_cons_zero, List.set_cons_succ, i64_w, i32_w]
    rfl
  refine last_ (i := 7) (N := none) #[true, true, true, true, true, true, true, true] rfl rfl (by kernel_rfl) (by decide) (fun K hK => ?_)
  refine skip_ (w1 := ?_) (by rfl) rfl ?_ ?_
  rotate_left
  · go_simp
    rfl
  have hst : KeepBut wr (wr.setCell ⟨w.heap.size, 6, none⟩ (.slice (some ⟨eb, 0, none⟩) 1 ce)) w.heap.size none := (KeepBut.refl _ _ _).set_ 6 _
  have HRs := Aside0.mk (HRr.out.store (by decide) HMr.out (mc_no _ _ _ _ _ _ _ _ _) hst)
  have HMs := Aside0.mk (show (wr.setCell ⟨w.heap.size, 6, none⟩ (.slice (some ⟨eb, 0, none⟩) 1 ce)).heap[w.heap.size]? = some (.cells (MCells 0 0 (.slice (some ⟨sb, 0, none⟩) 1 cs) 1 (.slice (some ⟨eb, 0, none⟩) 1 ce)) 27 (0, 0)) from by simpa [MCells] using blk_set HMr.out 6 (.slice (some ⟨eb, 0, none⟩) 1 ce))
  have HPs := Aside0.mk (keep_blk hst HPr.out HRM.out)
  have HBs := Aside0.mk (show Below w.heap.size w (wr.setCell ⟨w.heap.size, 6, none⟩ (.slice (some ⟨eb, 0, none⟩) 1 ce)) from HBr.out.setCell (Nat.le_refl _) _)
  have HCs := Aside0.mk (C_move_col HCr.out (hst.2 sb HSr.out HSM.out (by simp)))
  have HSs := Aside0.mk (Nat.lt_of_lt_of_le HSr.out hst.1)
  have HEs := Aside0.mk (HEr.out.move (hst.2 eb HEL.out HEM.out (by simp)))
  have HELs := Aside0.mk (Nat.lt_of_lt_of_le HEL.out hst.1)
  generalize hws : wr.setCell ⟨w.heap.size, 6, none⟩ (.slice (some ⟨eb, 0, none⟩) 1 ce) = ws at *
  have hrb : ws.cell? ⟨W1.heap.size, 0, none⟩ = some (.pointer (some ⟨g, 0, none⟩)) := blk_cell HPs.out 0
  refine hK.out _ _ ?_
  clear hK K
  refine done_ (by kernel_rfl) ?_
  go_wp2_with fail
  rw [rounds_succ]
  go_wp2_with fail
  refine (mr_end w.heap.size g ws HRs.out).mono ?_
  rintro e wt ⟨rfl, hb⟩
  have HRt := Aside0.mk (HRs.out.below hb)
  have HMt := Aside0.mk ((hb.block _ (blk_lt HMs.out)).trans HMs.out)
  have HPt := Aside0.mk ((hb.block _ (blk_lt HPs.out)).trans HPs.out)
  have HBt := Aside0.mk (below_then HBs.out HBs.out.size hb)
  have HCt := Aside0.mk (C_move_col HCs.out (hb.block sb HSs.out))
  have HSt := Aside0.mk (Nat.lt_of_lt_of_le HSs.out hb.size)
  have HEt := Aside0.mk (HEs.out.move (hb.block eb HELs.out))
  have HELt := Aside0.mk (Nat.lt_of_lt_of_le HELs.out hb.size)
  clear hb
  go_wp2_with (refine wpList_load_row rfl 27 (.tmp 2) rfl w.heap.size rfl 27 (MCells 0 0 (.slice (some ⟨sb, 0, none⟩) 1 cs) 1 (.slice (some ⟨eb, 0, none⟩) 1 ce)) (0, 0) _ HMt.out Tryz.underlying27 rfl (by kernel_rfl) ?_)
  refine (m_check sb cs eb ce wt ⟨HCS.out, HCE.out, HCt.out, HEt.out⟩).mono ?_
  rintro e wu ⟨rfl, hb⟩
  have HRu := Aside0.mk (HRt.out.below hb)
  have HMu := Aside0.mk ((hb.block _ (blk_lt HMt.out)).trans HMt.out)
  have HPu := Aside0.mk ((hb.block _ (blk_lt HPt.out)).trans HPt.out)
  have HBu := Aside0.mk (below_then HBt.out HBt.out.size hb)
  have HCu := Aside0.mk (C_move_col HCt.out (hb.block sb HSt.out))
  have HSu := Aside0.mk (Nat.lt_of_lt_of_le HSt.out hb.size)
  have HEu := Aside0.mk (HEt.out.move (hb.block eb HELt.out))
  clear hb
  go_wp2_with (first | (refine wpList_load_row rfl 27 (.tmp 2) rfl w.heap.size rfl 27 (MCells 0 0 (.slice (some ⟨sb, 0, none⟩) 1 cs) 1 (.slice (some ⟨eb, 0, none⟩) 1 ce)) (0, 0) _ HMu.out Tryz.underlying27 rfl (by kernel_rfl) ?_) | (refine wpList_store_row rfl 27 (.tmp 2) (.tmp 94) rfl w.heap.size (MCells 0 0 (.slice (some ⟨sb, 0, none⟩) 1 cs) 1 (.slice (some ⟨eb, 0, none⟩) 1 ce)) rfl rfl 27 (MCells 0 0 (.slice (some ⟨sb, 0, none⟩) 1 cs) 1 (.slice (some ⟨eb, 0, none⟩) 1 ce)) HMu.out (by kernel_rfl) rfl (by kernel_rfl) ?_))
  rw [setRow_self wu w.heap.size _ _ _ HMu.out]
  refine bodyPost_ret (v := .tuple #[ManV sb cs eb ce, .nilIface]) (results_cr_tmp (p := 2) (u := 3) rfl _ _ w.heap.size 27 (MCells 0 0 (.slice (some ⟨sb, 0, none⟩) 1 cs) 1 (.slice (some ⟨eb, 0, none⟩) 1 ce)) (0, 0) _ rfl HMu.out Tryz.underlying27 rfl (by kernel_rfl)) rfl ?_
  exact ⟨sb, cs, eb, ce, rfl, ⟨HCS.out, HCE.out, HCu.out, HEu.out⟩, HSW.out, HEW.out, HBu.out⟩

end Go.Proofs.YtjmhiklmlgbifaaGreatDoor.PMan
end
section
namespace Go.Proofs.YtjmhiklmlgbifaaGreatDoor.PMan
open Go.RowKit Go.Proofs.YtjmhiklmlgbifaaGreatDoorW.PrintWords Go.Proofs.YtjmhiklmlgbifaaGreatDoorW.PrintLast Go.Proofs.YtjmhiklmlgbifaaGreatDoorW.PrintMore
attribute [local go_sem] max2_int min2_int max_two min_two max_three min_three max_four min_four   -- for this text's walks alone
set_option linter.unusedVariables false
set_option linter.unusedSimpArgs false

theorem leastF_get : frame_Get.f leastF = some (leastL, 83, 0) := by decide +kernel
theorem leastF_len : leastF.length = 83 := by decide +kernel
theorem m_belowRow {B : Nat} {w W : World} (h : Below B w W) (g : Nat) (hg : B ≤ g) (c : Array Value) : Below B w (W.setRow g c) :=
  ⟨h.os, h.tape, h.output, by rw [setRow_size]; exact h.size, fun k hk => (setRow_other W g k c (by omega)).trans (h.block k hk)⟩
set_option maxHeartbeats 4000000 in
set_option maxRecDepth 100000 in
theorem m_take (A0 : Option Addr) (c0 : Nat) (w : World) (hr0 : Kd.C (Kd.int .u8) w A0 leastF.length leastF) (hc0 : leastF.length ≤ c0) (hG : ErrT w) :
    Calls Tryz.prog 18 #[.slice A0 leastF.length c0] w fun ev w' => ∃ s cs e ce, ev = .returned (.tuple #[ManV s cs e ce, .int .i64 0]) ∧ ManP w' s cs e ce ∧ Below w.heap.size w w' := by
  have HR0 := Aside0.mk hr0
  have HC0 := Aside0.mk hc0
  have HG := Aside0.mk hG
  have hlen : decide ((83 : Int) < (leastF.length : Int)) = false := by rw [leastF_len]; rfl
  clear hr0 hc0 hG
  go_enter Tryz.func18, Tryz.ntmps18
  go_wp2_with fail
  have hm0 : (w.alloc (.cells (MCells 0 0 (.slice none 0 0) 0 (.slice none 0 0)) 27)).heap[w.heap.size]? = some (.cells (MCells 0 0 (.slice none 0 0) 0 (.slice none 0 0)) 27 (0, 0)) := heap_alloc_new w _
  have hb0 : Below w.heap.size w (w.alloc (.cells (MCells 0 0 (.slice none 0 0) 0 (.slice none 0 0)) 27)) := below_alloc (Below.refl _ _) _
  have HM0 := Aside0.mk hm0
  have HB0 := Aside0.mk hb0
  have HR1 := Aside0.mk (Kd.C_below HR0.out hb0)
  have HG0 := Aside0.mk (HG.out.of_below hb0)
  clear hm0 hb0
  generalize w.alloc (.cells (MCells 0 0 (.slice none 0 0) 0 (.slice none 0 0)) 27) = W0 at *
  refine (frame_Get.calls A0 c0 leastF leastL 83 0 W0 HR1.out HC0.out HG0.out leastF_get).mono ?_
  rintro e w1 ⟨v, rfl, hr, hb⟩
  obtain ⟨A, c, rfl⟩ := Kd.R_slice hr
  have hrd := Kd.R_reads' hr
  have HRD := Aside0.mk hrd.2.2
  have HCD := Aside0.mk hrd.2.1
  have HM1 := Aside0.mk ((hb.block _ (blk_lt HM0.out)).trans HM0.out)
  have HB1 := Aside0.mk (below_then HB0.out HB0.out.size hb)
  have HG1 := Aside0.mk (HG0.out.of_below hb)
  clear hr hb hrd
  go_wp2_with fail
  refine (m_read A c w1 HRD.out HCD.out HG1.out).mono ?_
  rintro e w2 ⟨s, cs, eb, ce, rfl, hM, hs, he, hb⟩
  have HMP := Aside0.mk hM
  have HSM := Aside0.mk (show s ≠ w.heap.size by have := blk_lt HM1.out; omega)
  have HEM := Aside0.mk (show eb ≠ w.heap.size by have := blk_lt HM1.out; omega)
  have HM2 := Aside0.mk ((hb.block _ (blk_lt HM1.out)).trans HM1.out)
  have HB2 := Aside0.mk (below_then HB1.out HB1.out.size hb)
  have hm3 := setRow_heap w2 w.heap.size _ (MCells 0 0 (.slice (some ⟨s, 0, none⟩) 1 cs) 1 (.slice (some ⟨eb, 0, none⟩) 1 ce)) _ _ HM2.out
  have hb3 := m_belowRow HB2.out w.heap.size (Nat.le_refl _) (MCells 0 0 (.slice (some ⟨s, 0, none⟩) 1 cs) 1 (.slice (some ⟨eb, 0, none⟩) 1 ce))
  have HM3 := Aside0.mk hm3
  have HB3 := Aside0.mk hb3
  have HMP3 := Aside0.mk (show ManP (w2.setRow w.heap.size (MCells 0 0 (.slice (some ⟨s, 0, none⟩) 1 cs) 1 (.slice (some ⟨eb, 0, none⟩) 1 ce))) s cs eb ce from ⟨hM.1, hM.2.1, C_move_col hM.2.2.1 (setRow_other _ _ _ _ HSM.out), hM.2.2.2.move (setRow_other _ _ _ _ HEM.out)⟩)
  clear hM hs he hb hm3 hb3
  go_wp2_with (refine wpList_store_row rfl 27 (.tmp 2) (.tmp 27) rfl w.heap.size (MCells 0 0 (.slice (some ⟨s, 0, none⟩) 1 cs) 1 (.slice (some ⟨eb, 0, none⟩) 1 ce)) rfl rfl 27 _ HM2.out (by kernel_rfl) rfl (by kernel_rfl) ?_)
  generalize w2.setRow w.heap.size (MCells 0 0 (.slice (some ⟨s, 0, none⟩) 1 cs) 1 (.slice (some ⟨eb, 0, none⟩) 1 ce)) = w3 at *
  refine (is_nil 4 w3).mono ?_
  rintro e w' ⟨rfl, rfl⟩
  go_wp2_with (first | (refine wpList_load_row rfl 27 (.tmp 2) rfl w.heap.size rfl 27 (MCells 0 0 (.slice (some ⟨s, 0, none⟩) 1 cs) 1 (.slice (some ⟨eb, 0, none⟩) 1 ce)) (0, 0) _ HM3.out Tryz.underlying27 rfl (by kernel_rfl) ?_) | (refine wpList_store_row rfl 27 (.tmp 2) (.tmp 33) rfl w.heap.size (MCells 0 0 (.slice (some ⟨s, 0, none⟩) 1 cs) 1 (.slice (some ⟨eb, 0, none⟩) 1 ce)) rfl rfl 27 _ HM3.out (by kernel_rfl) rfl (by kernel_rfl) ?_))
  rw [setRow_self w3 w.heap.size _ _ _ HM3.out]
  refine bodyPost_ret (v := .tuple #[ManV s cs eb ce, .int .i64 0]) (results_cr_tmp (p := 2) (u := 3) rfl _ _ w.heap.size 27 (MCells 0 0 (.slice (some ⟨s, 0, none⟩) 1 cs) 1 (.slice (some ⟨eb, 0, none⟩) 1 ce)) (0, 0) _ rfl HM3.out Tryz.underlying27 rfl (by kernel_rfl)) rfl ?_
  exact ⟨s, cs, eb, ce, rfl, HMP3.out, HB3.out⟩

end Go.Proofs.YtjmhiklmlgbifaaGreatDoor.PMan
end
section
namespace Go.Proofs.YtjmhiklmlgbifaaGreatDoor.PMan
open Go.RowKit Go.Proofs.YtjmhiklmlgbifaaGreatDoorW.PrintWords Go.Proofs.YtjmhiklmlgbifaaGreatDoorW.PrintLast Go.Proofs.YtjmhiklmlgbifaaGreatDoorW.PrintMore
attribute [local go_sem] max2_int min2_int max_two min_two max_three min_three max_four min_four   -- for this text's walks alone
set_option linter.unusedVariables false
set_option linter.unusedSimpArgs false

theorem exec_load_mid {P : Program} {oi : Oper} {f : Operand → Value} {W : World} (ty : TypeId) (x : Operand) (ho : oi.op = .load ty x) (b o : Nat) (hx : f x = .pointer (some ⟨b, o, none⟩)) (cs : List Value) (d : TypeDesc) (hg : W.rangeAt b o cs)
    (hu : P.underlying ty = some d) (hd : d.isRow = true) (hi : (P.info? ty).map (·.size) = some cs.length) : (execOp f oi).run P W = .ok (.value (.agg cs.toArray)) W := by
  unfold execOp
  simp only [ho, hx, Instr.loadAt, Instr.sureAddr, Sem.run_bind, Sem.run_pure, Result.andThen_ok, run_loadVar_mid W b o ty cs d hg hu hd hi]
theorem ents_neq (W : World) : (binOp .neq 81 (.agg Tryz.zeroCells81) (.agg Tryz.zeroCells81)).run Tryz.prog W = .ok (.bool false) W := by kernel_rfl
set_option maxHeartbeats 4000000 in
set_option maxRecDepth 100000 in
theorem m_same (s cs e ce s' cs' e' ce' : Nat) (w : World) (hM : ManP w s cs e ce) (hM' : ManP w s' cs' e' ce') :
    Calls Tryz.prog 20 #[ManV s cs e ce, ManV s' cs' e' ce'] w fun ev w' => ev = .returned (.bool true) ∧ Below w.heap.size w w' := by
  have HM := Aside0.mk hM
  have HM' := Aside0.mk hM'
  have hne := ents_neq
  clear hM hM'
  unfold ManV
  go_enter Tryz.func20, Tryz.ntmps20
  go_wp2_with fail
  have hb1 : Below w.heap.size w (w.alloc (.cells (MCells 0 0 (.slice (some ⟨s, 0, none⟩) 1 cs) 1 (.slice (some ⟨e, 0, none⟩) 1 ce)) 27)) := below_alloc (Below.refl _ _) _
  have hs1 : (w.alloc (.cells (MCells 0 0 (.slice (some ⟨s, 0, none⟩) 1 cs) 1 (.slice (some ⟨e, 0, none⟩) 1 ce)) 27)).heap.size = w.heap.size + 1 := by simp
  have hx1 := heap_alloc_new w (.cells (MCells 0 0 (.slice (some ⟨s, 0, none⟩) 1 cs) 1 (.slice (some ⟨e, 0, none⟩) 1 ce)) 27)
  have hb2 : Below (w.heap.size + 1) (w.alloc (.cells (MCells 0 0 (.slice (some ⟨s, 0, none⟩) 1 cs) 1 (.slice (some ⟨e, 0, none⟩) 1 ce)) 27)) ((w.alloc (.cells (MCells 0 0 (.slice (some ⟨s, 0, none⟩) 1 cs) 1 (.slice (some ⟨e, 0, none⟩) 1 ce)) 27)).alloc (.cells (MCells 0 0 (.slice (some ⟨s', 0, none⟩) 1 cs') 1 (.slice (some ⟨e', 0, none⟩) 1 ce')) 27)) := hs1 ▸ below_alloc (Below.refl _ _) _
  have hx2 := heap_alloc_new (w.alloc (.cells (MCells 0 0 (.slice (some ⟨s, 0, none⟩) 1 cs) 1 (.slice (some ⟨e, 0, none⟩) 1 ce)) 27)) (.cells (MCells 0 0 (.slice (some ⟨s', 0, none⟩) 1 cs') 1 (.slice (some ⟨e', 0, none⟩) 1 ce')) 27)
  rw [hs1] at hx2
  have hbb : Below w.heap.size w ((w.alloc (.cells (MCells 0 0 (.slice (some ⟨s, 0, none⟩) 1 cs) 1 (.slice (some ⟨e, 0, none⟩) 1 ce)) 27)).alloc (.cells (MCells 0 0 (.slice (some ⟨s', 0, none⟩) 1 cs') 1 (.slice (some ⟨e', 0, none⟩) 1 ce')) 27)) := hb1.trans (hb2.mono (by omega))
  have H1 := Aside0.mk ((hb2.block w.heap.size (by omega)).trans hx1)
  have H2 := Aside0.mk hx2
  have HBB := Aside0.mk hbb
  have HA := Aside0.mk (HM.out.below hbb)
  have HA' := Aside0.mk (HM'.out.below hbb)
  clear hb1 hs1 hx1 hb2 hx2 hbb
  generalize (w.alloc (.cells (MCells 0 0 (.slice (some ⟨s, 0, none⟩) 1 cs) 1 (.slice (some ⟨e, 0, none⟩) 1 ce)) 27)).alloc (.cells (MCells 0 0 (.slice (some ⟨s', 0, none⟩) 1 cs') 1 (.slice (some ⟨e', 0, none⟩) 1 ce')) 27) = W0 at *
  have p0 : W0.cell? ⟨w.heap.size, 0, none⟩ = some (.int .i64 0) := blk_cell H1.out 0
  have q0 : W0.cell? ⟨w.heap.size + 1, 0, none⟩ = some (.int .i64 0) := blk_cell H2.out 0
  have p1 : W0.cell? ⟨w.heap.size, 1, none⟩ = some (.int .i64 0) := blk_cell H1.out 1
  have q1 : W0.cell? ⟨w.heap.size + 1, 1, none⟩ = some (.int .i64 0) := blk_cell H2.out 1
  have p2 : W0.cell? ⟨w.heap.size, 2, none⟩ = some (.slice (some ⟨s, 0, none⟩) 1 cs) := blk_cell H1.out 2
  have q2 : W0.cell? ⟨w.heap.size + 1, 2, none⟩ = some (.slice (some ⟨s', 0, none⟩) 1 cs') := blk_cell H2.out 2
  have p3 : W0.cell? ⟨w.heap.size, 3, none⟩ = some (.int .i64 1) := blk_cell H1.out 3
  have q3 : W0.cell? ⟨w.heap.size + 1, 3, none⟩ = some (.int .i64 1) := blk_cell H2.out 3
  have p4 : W0.cell? ⟨w.heap.size, 4, none⟩ = some (.slice none 0 0) := blk_cell H1.out 4
  have q4 : W0.cell? ⟨w.heap.size + 1, 4, none⟩ = some (.slice none 0 0) := blk_cell H2.out 4
  have p5 : W0.cell? ⟨w.heap.size, 5, none⟩ = some (.slice none 0 0) := blk_cell H1.out 5
  have q5 : W0.cell? ⟨w.heap.size + 1, 5, none⟩ = some (.slice none 0 0) := blk_cell H2.out 5
  have p6 : W0.cell? ⟨w.heap.size, 6, none⟩ = some (.slice (some ⟨e, 0, none⟩) 1 ce) := blk_cell H1.out 6
  have q6 : W0.cell? ⟨w.heap.size + 1, 6, none⟩ = some (.slice (some ⟨e', 0, none⟩) 1 ce') := blk_cell H2.out 6
  refine (estreatref15_SameSchema.calls 5 (some ⟨s, 0, none⟩) cs [⟨1, false, -1⟩] (some ⟨s', 0, none⟩) cs' [⟨1, false, -1⟩] true W0 HA.out.2.2.1 HA.out.1 HA'.out.2.2.1 HA'.out.1 (by decide +kernel)).mono ?_
  rintro ev w1 ⟨rfl, ⟨n1, rfl⟩⟩
  go_wp2_with fail
  refine (estreatref15_SameRows.calls 5 none 0 [] none 0 [] true (W0.drewN n1) ⟨rfl, by decide, fun h => absurd h (by decide)⟩ (Nat.le_refl _) ⟨rfl, by decide, fun h => absurd h (by decide)⟩ (Nat.le_refl _) (by decide +kernel)).mono ?_
  rintro ev w1 ⟨rfl, ⟨n2, rfl⟩⟩
  go_wp2_with fail
  refine wp_loop_rounds 1 ?_
  rw [rounds_succ]
  go_wp2_with fail
  refine wp_loop_rounds 2 ?_
  rw [rounds_succ]
  go_wp2_with fail
  have hE1 := HA.out.2.2.2
  have hE2 := HA'.out.2.2.2
  refine start_ (n := 11) (S := fun w' => w'.cell? ⟨w.heap.size, 6, none⟩ = some (.slice (some ⟨e, 0, none⟩) 1 ce) ∧ w'.cell? ⟨w.heap.size + 1, 6, none⟩ = some (.slice (some ⟨e', 0, none⟩) 1 ce') ∧ w'.rangeAt e 0 Tryz.zeroCells81.toList ∧ w'.rangeAt e' 0 Tryz.zeroCells81.toList) (ds := []) #[false, false, false, false, false, false, false, false, false, false, false] (by kernel_rfl) rfl rfl ⟨p6, q6, hE1, hE2⟩ (fun hHeld => ?_)
  refine pure_ (i := 0) (N := some 119) (v := ?_) (a' := ?_) #[true, false, false, false, false, false, false, false, false, false, false] rfl rfl (by kernel_rfl) (fun _ _ _ h => h) (Or.inl ⟨by rfl, ?_⟩) ?_ ?_
  rotate_left
  · intro w'
    go_simp
    with_reducible rfl
  rotate_left
  · simp only [Act.put, List.setIfInBounds_toArray, List.set_cons_zero, List.set_cons_succ, i64_w, i32_w]
    rfl
  refine pure_ (i := 2) (N := some 121) (v := ?_) (a' := ?_) #[true, false, true, false, false, false, false, false, false, false, false] rfl rfl (by kernel_rfl) (fun _ _ _ h => h) (Or.inl ⟨by rfl, ?_⟩) ?_ ?_
  rotate_left
  · intro w'
    go_simp
    with_reducible rfl
  rotate_left
  · simp only [Act.put, List.setIfInBounds_toArray, List.set_cons_zero, List.set_cons_succ, i64_w, i32_w]
    rfl
  refine pure_ (i := 5) (N := some 124) (v := ?_) (a' := ?_) #[true, false, true, false, false, true, false, false, false, false, false] rfl rfl (by kernel_rfl) (fun _ _ _ h => h) (Or.inl ⟨by rfl, ?_⟩) ?_ ?_
  rotate_left
  · intro w'
    go_simp
    with_reducible rfl
  rotate_left
  · simp only [Act.put, List.setIfInBounds_toArray, List.set_cons_zero, List.set_cons_succ, i64_w, i32_w]
    rfl
  refine pure_ (i := 7) (N := some 126) (v := ?_) (a' := ?_) #[true, false, true, false, false, true, false, true, false, false, false] rfl rfl (by kernel_rfl) (fun _ _ _ h => h) (Or.inl ⟨by rfl, ?_⟩) ?_ ?_
  rotate_left
  · intro w'
    go_simp
    with_reducible rfl
  rotate_left
  · simp only [Act.put, List.setIfInBounds_toArray, List.set_cons_zero, List.set_cons_succ, i64_w, i32_w]
    rfl
  refine take_ (i := 1) (N := some 120) (v := ?_) (a' := ?_) #[true, true, true, false, false, true, false, true, false, false, false] rfl rfl (by kernel_rfl) (fun _ _ _ h => h) (Or.inl ⟨by rfl, ?_⟩) hHeld ?_ ?_
  rotate_left
  · rintro w' ⟨s0, s1, s2, s3⟩
    go_simp
    with_reducible rfl
  rotate_left
  · simp only [Act.put, List.setIfInBounds_toArray, List.set_cons_zero, List.set_cons_succ, i64_w, i32_w]
    rfl
  refine pure_ (i := 3) (N := some 122) (v := ?_) (a' := ?_) #[true, true, true, true, false, true, false, true, false, false, false] rfl rfl (by kernel_rfl) (fun _ _ _ h => h) (Or.inl ⟨by rfl, ?_⟩) ?_ ?_
  rotate_left
  · intro w'
    go_simp
    with_reducible rfl
  rotate_left
  · simp only [Act.put, List.setIfInBounds_toArray, List.set_cons_zero, List.set_cons_succ, i64_w, i32_w]
    rfl
  refine take_ (i := 4) (N := some 123) (v := ?_) (a' := ?_) #[true, true, true, true, true, true, false, true, false, false, false] rfl rfl (by kernel_rfl) (fun _ _ _ h => h) (Or.inl ⟨by rfl, ?_⟩) hHeld ?_ ?_
  rotate_left
  · rintro w' ⟨s0, s1, s2, s3⟩
    show _ = Result.ok (Next.value (.agg Tryz.zeroCells81)) w'
    refine exec_load_mid 81 (.tmp 122) ?_ e 0 ?_ Tryz.zeroCells81.toList _ s2 Tryz.underlying81 rfl ?_
    · rfl
    · rfl
    · kernel_rfl
  rotate_left
  · simp only [Act.put, List.setIfInBounds_toArray, List.set_cons_zero, List.set_cons_succ, i64_w, i32_w]
    rfl
  refine take_ (i := 6) (N := some 125) (v := ?_) (a' := ?_) #[true, true, true, true, true, true, true, true, false, false, false] rfl rfl (by kernel_rfl) (fun _ _ _ h => h) (Or.inl ⟨by rfl, ?_⟩) hHeld ?_ ?_
  rotate_left
  · rintro w' ⟨s0, s1, s2, s3⟩
    go_simp
    with_reducible rfl
  rotate_left
  · simp only [Act.put, List.setIfInBounds_toArray, List.set_cons_zero, List.set_cons_succ, i64_w, i32_w]
    rfl
  refine pure_ (i := 8) (N := some 127) (v := ?_) (a' := ?_) #[true, true, true, true, true, true, true, true, true, false, false] rfl rfl (by kernel_rfl) (fun _ _ _ h => h) (Or.inl ⟨by rfl, ?_⟩) ?_ ?_
  rotate_left
  · intro w'
    go_simp
    with_reducible rfl
  rotate_left
  · simp only [Act.put, List.setIfInBounds_toArray, List.set_cons_zero, List.set_cons_succ, i64_w, i32_w]
    rfl
  refine take_ (i := 9) (N := some 128) (v := ?_) (a' := ?_) #[true, true, true, true, true, true, true, true, true, true, false] rfl rfl (by kernel_rfl) (fun _ _ _ h => h) (Or.inl ⟨by rfl, ?_⟩) hHeld ?_ ?_
  rotate_left
  · rintro w' ⟨s0, s1, s2, s3⟩
    show _ = Result.ok (Next.value (.agg Tryz.zeroCells81)) w'
    refine exec_load_mid 81 (.tmp 127) ?_ e' 0 ?_ Tryz.zeroCells81.toList _ s3 Tryz.underlying81 rfl ?_
    · rfl
    · rfl
    · kernel_rfl
  rotate_left
  · simp only [Act.put, List.setIfInBounds_toArray, List.set_cons_zero, List.set_cons_succ, i64_w, i32_w]
    rfl
  refine pure_ (i := 10) (N := some 129) (v := ?_) (a' := ?_) #[true, true, true, true, true, true, true, true, true, true, true] rfl rfl (by kernel_rfl) (fun _ _ _ h => h) (Or.inl ⟨by rfl, ?_⟩) ?_ ?_
  rotate_left
  · intro w'
    go_simp
    with_reducible rfl
  rotate_left
  · simp only [Act.put, List.setIfInBounds_toArray, List.set_cons_zero, List.set_cons_succ, i64_w, i32_w]
    rfl
  refine done_ (by kernel_rfl) ?_
  clear hE1 hE2
  go_wp2_with fail
  rw [rounds_succ]
  go_wp2_with fail
  go_ret
  exact ⟨rfl, by repeat (first | (with_reducible first | exact HBB.out | apply below_alloc | apply pw_below_drewN | apply below_drew1) | exact HBB.out)⟩

end Go.Proofs.YtjmhiklmlgbifaaGreatDoor.PMan
end
section
namespace Go.Proofs.YtjmhiklmlgbifaaGreatDoor.PMan
open Go.RowKit Go.Proofs.YtjmhiklmlgbifaaGreatDoorW.PrintWords Go.Proofs.YtjmhiklmlgbifaaGreatDoorW.PrintLast Go.Proofs.YtjmhiklmlgbifaaGreatDoorW.PrintMore
attribute [local go_sem] max2_int min2_int max_two min_two max_three min_three max_four min_four   -- for this text's walks alone
set_option linter.unusedVariables false
set_option linter.unusedSimpArgs false

set_option maxHeartbeats 1600000 in
set_option maxRecDepth 100000 in
theorem m_log3 (w : World) : Calls Tryz.prog 15 #[.int .i64 3] w fun e w' => e = .returned (.string ⟨#[108, 111, 103, 45, 51]⟩) ∧ w = w' := by
  go_enter Tryz.func15, Tryz.ntmps15
  go_wp2
  go_ret
  exact ⟨by kernel_rfl, rfl⟩
set_option maxHeartbeats 1600000 in
set_option maxRecDepth 100000 in
theorem m_group12 (w : World) : Calls Tryz.prog 17 #[.int .i64 12] w fun e w' => e = .returned (.string ⟨#[103, 114, 111, 117, 112, 45, 49, 50]⟩) ∧ w = w' := by
  go_enter Tryz.func17, Tryz.ntmps17
  go_wp2
  go_ret
  exact ⟨by kernel_rfl, rfl⟩

def estreatlaw26_awake.f : Option Bool := some true
set_option maxHeartbeats 4000000 in
set_option maxRecDepth 100000 in
theorem m_awake (w : World) (hG : ErrT w) : Calls Tryz.prog 9 #[] w fun ev w' => ev = .returned (.bool true) ∧ Below w.heap.size w w' := by
  have HG := Aside0.mk hG
  clear hG
  go_enter Tryz.func9, Tryz.ntmps9
  go_wp2_with fail
  refine (m_least w).mono ?_
  rintro ev w1 ⟨s1, e1, rfl, hM, hb⟩
  have HM1 := Aside0.mk hM
  have HB1 := Aside0.mk hb
  clear hM hb
  go_wp2_with fail
  refine (m_put s1 1 e1 1 w1 HM1.out).mono ?_
  rintro ev w2 ⟨v, rfl, hr, hb⟩
  obtain ⟨A, c, rfl⟩ := Kd.R_slice hr
  have hrd := Kd.R_reads' hr
  have HRD := Aside0.mk hrd.2.2
  have HCD := Aside0.mk hrd.2.1
  have HB2 := Aside0.mk (below_then HB1.out HB1.out.size hb)
  clear hr hb hrd
  go_wp2_with fail
  refine (m_take A c w2 HRD.out HCD.out (HG.out.of_below HB2.out)).mono ?_
  rintro ev w3 ⟨s, cs, e, ce, rfl, hM, hb⟩
  have HM3 := Aside0.mk hM
  have HB3 := Aside0.mk (below_then HB2.out HB2.out.size hb)
  clear hM hb
  go_wp2_with (refine wpList_store_row rfl 27 (.tmp 3) (.tmp 13) rfl w3.heap.size (MCells 0 0 (.slice (some ⟨s, 0, none⟩) 1 cs) 1 (.slice (some ⟨e, 0, none⟩) 1 ce)) rfl rfl 27 (MCells 0 0 (.slice none 0 0) 0 (.slice none 0 0)) (heap_alloc_new w3 _) (by kernel_rfl) rfl (by kernel_rfl) ?_; rw [World.setRow_alloc_new])
  have hx : (w3.alloc (.cells (MCells 0 0 (.slice (some ⟨s, 0, none⟩) 1 cs) 1 (.slice (some ⟨e, 0, none⟩) 1 ce)) 27)).drew.heap[w3.heap.size]? = some (.cells (MCells 0 0 (.slice (some ⟨s, 0, none⟩) 1 cs) 1 (.slice (some ⟨e, 0, none⟩) 1 ce)) 27 (0, 0)) := heap_alloc_new w3 _
  have hb4 : Below w3.heap.size w3 (w3.alloc (.cells (MCells 0 0 (.slice (some ⟨s, 0, none⟩) 1 cs) 1 (.slice (some ⟨e, 0, none⟩) 1 ce)) 27)).drew := below_drew (below_alloc (Below.refl _ _) _)
  have HX := Aside0.mk hx
  have HB4 := Aside0.mk (below_then HB3.out HB3.out.size hb4)
  have HM4 := Aside0.mk (HM3.out.below hb4)
  clear hb4
  refine start_ (n := 20) (S := fun w' => w'.heap[w3.heap.size]? = some (.cells (MCells 0 0 (.slice (some ⟨s, 0, none⟩) 1 cs) 1 (.slice (some ⟨e, 0, none⟩) 1 ce)) 27 (0, 0))) (ds := []) #[false, false, false, false, false, false, false, false, false, false, false, false, false, false, false, false, false, false, false, false] (by kernel_rfl) rfl rfl (hx) (fun hHeld => ?_)
  generalize (w3.alloc (.cells (MCells 0 0 (.slice (some ⟨s, 0, none⟩) 1 cs) 1 (.slice (some ⟨e, 0, none⟩) 1 ce)) 27)).drew = W4 at *
  refine one_ (i := 0) (N := some 15) #[true, false, false, false, false, false, false, false, false, false, false, false, false, false, false, false, false, false, false, false] rfl rfl (by kernel_rfl) (by decide) (fun K hK => ?_)
  refine goes_ Tryz.func15 (by kernel_rfl) rfl #[.int .i64 3] (by rfl) rfl rfl (by simp only [List.map_toArray, List.map_cons, List.map_nil]; rfl) ?_
  with_reducible refine (m_log3 _).mono ?_
  rintro ev w' ⟨rfl, rfl⟩
  refine ⟨_, rfl, ?_⟩
  refine hK.out _ _ (hx) (fun hHeld => ?_)
  clear hK K
  refine norm_ (a' := ?_) ?_ ?_
  rotate_left
  · show Act.put _ (some 15) _ = _
    simp only [Act.put, List.setIfInBounds_toArray, List.set_cons_zero, List.set_cons_succ, i64_w, i32_w]
    rfl
  refine pure_ (i := 1) (N := some 16) (v := ?_) (a' := ?_) #[true, true, false, false, false, false, false, false, false, false, false, false, false, false, false, false, false, false, false, false] rfl rfl (by kernel_rfl) (fun _ _ _ h => h) (Or.inl ⟨by rfl, ?_⟩) ?_ ?_
  rotate_left
  · intro w'
    go_simp
    with_reducible rfl
  rotate_left
  · simp only [Act.put, List.setIfInBounds_toArray, List.set_cons_zero, List.set_cons_succ, i64_w, i32_w]
    rfl
  refine pure_ (i := 2) (N := some 17) (v := ?_) (a' := ?_) #[true, true, true, false, false, false, false, false, false, false, false, false, false, false, false, false, false, false, false, false] rfl rfl (by kernel_rfl) (fun _ _ _ h => h) (Or.inl ⟨by rfl, ?_⟩) ?_ ?_
  rotate_left
  · intro w'
    go_simp
    with_reducible rfl
  rotate_left
  · simp only [Act.put, List.setIfInBounds_toArray, List.set_cons_zero, List.set_cons_succ, i64_w, i32_w]
    rfl
  refine one_ (i := 3) (N := some 18) #[true, true, true, true, false, false, false, false, false, false, false, false, false, false, false, false, false, false, false, false] rfl rfl (by kernel_rfl) (by decide) (fun K hK => ?_)
  refine goes_ Tryz.func17 (by kernel_rfl) rfl #[.int .i64 12] (by rfl) rfl rfl (by simp only [List.map_toArray, List.map_cons, List.map_nil]; rfl) ?_
  with_reducible refine (m_group12 _).mono ?_
  rintro ev w' ⟨rfl, rfl⟩
  refine ⟨_, rfl, ?_⟩
  refine hK.out _ _ (hx) (fun hHeld => ?_)
  clear hK K
  refine norm_ (a' := ?_) ?_ ?_
  rotate_left
  · show Act.put _ (some 18) _ = _
    simp only [Act.put, List.setIfInBounds_toArray, List.set_cons_zero, List.set_cons_succ, i64_w, i32_w]
    rfl
  refine pure_ (i := 4) (N := some 19) (v := ?_) (a' := ?_) #[true, true, true, true, true, false, false, false, false, false, false, false, false, false, false, false, false, false, false, false] rfl rfl (by kernel_rfl) (fun _ _ _ h => h) (Or.inl ⟨by rfl, ?_⟩) ?_ ?_
  rotate_left
  · intro w'
    go_simp
    with_reducible rfl
  rotate_left
  · simp only [Act.put, List.setIfInBounds_toArray, List.set_cons_zero, List.set_cons_succ, i64_w, i32_w]
    rfl
  refine pure_ (i := 5) (N := some 20) (v := ?_) (a' := ?_) #[true, true, true, true, true, true, false, false, false, false, false, false, false, false, false, false, false, false, false, false] rfl rfl (by kernel_rfl) (fun _ _ _ h => h) (Or.inl ⟨by rfl, ?_⟩) ?_ ?_
  rotate_left
  · intro w'
    go_simp
    with_reducible rfl
  rotate_left
  · simp only [Act.put, List.setIfInBounds_toArray, List.set_cons_zero, List.set_cons_succ, i64_w, i32_w]
    rfl
  refine pure_ (i := 6) (N := some 21) (v := ?_) (a' := ?_) #[true, true, true, true, true, true, true, false, false, false, false, false, false, false, false, false, false, false, false, false] rfl rfl (by kernel_rfl) (fun _ _ _ h => h) (Or.inl ⟨by rfl, ?_⟩) ?_ ?_
  rotate_left
  · intro w'
    go_simp
    with_reducible rfl
  rotate_left
  · simp only [Act.put, List.setIfInBounds_toArray, List.set_cons_zero, List.set_cons_succ, i64_w, i32_w]
    rfl
  refine pure_ (i := 7) (N := some 22) (v := ?_) (a' := ?_) #[true, true, true, true, true, true, true, true, false, false, false, false, false, false, false, false, false, false, false, false] rfl rfl (by kernel_rfl) (fun _ _ _ h => h) (Or.inl ⟨by rfl, ?_⟩) ?_ ?_
  rotate_left
  · intro w'
    go_simp
    with_reducible rfl
  rotate_left
  · simp only [Act.put, List.setIfInBounds_toArray, List.set_cons_zero, List.set_cons_succ, i64_w, i32_w]
    rfl
  refine pure_ (i := 8) (N := some 23) (v := ?_) (a' := ?_) #[true, true, true, true, true, true, true, true, true, false, false, false, false, false, false, false, false, false, false, false] rfl rfl (by kernel_rfl) (fun _ _ _ h => h) (Or.inl ⟨by rfl, ?_⟩) ?_ ?_
  rotate_left
  · intro w'
    go_simp
    with_reducible rfl
  rotate_left
  · simp only [Act.put, List.setIfInBounds_toArray, List.set_cons_zero, List.set_cons_succ, i64_w, i32_w]
    rfl
  refine pure_ (i := 9) (N := some 24) (v := ?_) (a' := ?_) #[true, true, true, true, true, true, true, true, true, true, false, false, false, false, false, false, false, false, false, false] rfl rfl (by kernel_rfl) (fun _ _ _ h => h) (Or.inl ⟨by rfl, ?_⟩) ?_ ?_
  rotate_left
  · intro w'
    go_simp
    with_reducible rfl
  rotate_left
  · simp only [Act.put, List.setIfInBounds_toArray, List.set_cons_zero, List.set_cons_succ, i64_w, i32_w]
    rfl
  refine pure_ (i := 10) (N := some 25) (v := ?_) (a' := ?_) #[true, true, true, true, true, true, true, true, true, true, true, false, false, false, false, false, false, false, false, false] rfl rfl (by kernel_rfl) (fun _ _ _ h => h) (Or.inl ⟨by rfl, ?_⟩) ?_ ?_
  rotate_left
  · intro w'
    go_simp
    with_reducible rfl
  rotate_left
  · simp only [Act.put, List.setIfInBounds_toArray, List.set_cons_zero, List.set_cons_succ, i64_w, i32_w]
    rfl
  refine pure_ (i := 11) (N := some 26) (v := ?_) (a' := ?_) #[true, true, true, true, true, true, true, true, true, true, true, true, false, false, false, false, false, false, false, false] rfl rfl (by kernel_rfl) (fun _ _ _ h => h) (Or.inl ⟨by rfl, ?_⟩) ?_ ?_
  rotate_left
  · intro w'
    go_simp
    with_reducible rfl
  rotate_left
  · simp only [Act.put, List.setIfInBounds_toArray, List.set_cons_zero, List.set_cons_succ, i64_w, i32_w]
    rfl
  refine pure_ (i := 12) (N := some 27) (v := ?_) (a' := ?_) #[true, true, true, true, true, true, true, true, true, true, true, true, true, false, false, false, false, false, false, false] rfl rfl (by kernel_rfl) (fun _ _ _ h => h) (Or.inl ⟨by rfl, ?_⟩) ?_ ?_
  rotate_left
  · intro w'
    go_simp
    with_reducible rfl
  rotate_left
  · simp only [Act.put, List.setIfInBounds_toArray, List.set_cons_zero, List.set_cons_succ, i64_w, i32_w]
    rfl
  refine pure_ (i := 13) (N := some 28) (v := ?_) (a' := ?_) #[true, true, true, true, true, true, true, true, true, true, true, true, true, true, false, false, false, false, false, false] rfl rfl (by kernel_rfl) (fun _ _ _ h => h) (Or.inl ⟨by rfl, ?_⟩) ?_ ?_
  rotate_left
  · intro w'
    go_simp
    with_reducible rfl
  rotate_left
  · simp only [Act.put, List.setIfInBounds_toArray, List.set_cons_zero, List.set_cons_succ, i64_w, i32_w]
    rfl
  refine pure_ (i := 14) (N := some 29) (v := ?_) (a' := ?_) #[true, true, true, true, true, true, true, true, true, true, true, true, true, true, true, false, false, false, false, false] rfl rfl (by kernel_rfl) (fun _ _ _ h => h) (Or.inl ⟨by rfl, ?_⟩) ?_ ?_
  rotate_left
  · intro w'
    go_simp
    with_reducible rfl
  rotate_left
  · simp only [Act.put, List.setIfInBounds_toArray, List.set_cons_zero, List.set_cons_succ, i64_w, i32_w]
    rfl
  refine take_ (i := 15) (N := some 30) (v := ?_) (a' := ?_) #[true, true, true, true, true, true, true, true, true, true, true, true, true, true, true, true, false, false, false, false] rfl rfl (by kernel_rfl) (fun _ _ _ h => h) (Or.inl ⟨by rfl, ?_⟩) hHeld ?_ ?_
  rotate_left
  · intro w' s0
    refine exec_load 27 (.tmp 3) ?_ w3.heap.size ?_ 27 (MCells 0 0 (.slice (some ⟨s, 0, none⟩) 1 cs) 1 (.slice (some ⟨e, 0, none⟩) 1 ce)) (0, 0) _ s0 Tryz.underlying27 rfl ?_
    · rfl
    · rfl
    · kernel_rfl
  rotate_left
  · simp only [Act.put, List.setIfInBounds_toArray, List.set_cons_zero, List.set_cons_succ, i64_w, i32_w]
    rfl
  refine one_ (i := 16) (N := some 31) #[true, true, true, true, true, true, true, true, true, true, true, true, true, true, true, true, true, false, false, false] rfl rfl (by kernel_rfl) (by decide) (fun K hK => ?_)
  refine goes_ Tryz.func28 (by kernel_rfl) rfl #[] (by rfl) rfl rfl (by simp) ?_
  with_reducible refine (m_least W4).mono ?_
  rintro ev w5 ⟨s2, e2, rfl, hM2, hb5⟩
  refine ⟨_, rfl, ?_⟩
  have HM2 := Aside0.mk hM2
  have HB5 := Aside0.mk hb5
  have hx := (hb5.block _ (blk_lt HX.out)).trans HX.out
  clear hM2 hb5
  refine hK.out _ _ (hx) (fun hHeld => ?_)
  clear hK K
  refine norm_ (a' := ?_) ?_ ?_
  rotate_left
  · show Act.put _ (some 31) _ = _
    simp only [Act.put, List.setIfInBounds_toArray, List.set_cons_zero, List.set_cons_succ, i64_w, i32_w]
    rfl
  refine one_ (i := 17) (N := some 32) #[true, true, true, true, true, true, true, true, true, true, true, true, true, true, true, true, true, true, false, false] rfl rfl (by kernel_rfl) (by decide) (fun K hK => ?_)
  refine goes_ Tryz.func20 (by kernel_rfl) rfl #[ManV s cs e ce, ManV s2 1 e2 1] (by rfl) rfl rfl (by simp only [List.map_toArray, List.map_cons, List.map_nil]; rfl) ?_
  with_reducible refine (m_same s cs e ce s2 1 e2 1 w5 (HM4.out.below HB5.out) HM2.out).mono ?_
  rintro ev w6 ⟨rfl, hb6⟩
  refine ⟨_, rfl, ?_⟩
  have HB6 := Aside0.mk hb6
  clear hb6
  refine hK.out _ _ ((HB6.out.block _ (blk_lt hx)).trans hx) (fun hHeld => ?_)
  clear hK K
  refine norm_ (a' := ?_) ?_ ?_
  rotate_left
  · show Act.put _ (some 32) _ = _
    simp only [Act.put, List.setIfInBounds_toArray, List.set_cons_zero, List.set_cons_succ, i64_w, i32_w]
    rfl
  refine pure_ (i := 18) (N := some 33) (v := ?_) (a' := ?_) #[true, true, true, true, true, true, true, true, true, true, true, true, true, true, true, true, true, true, true, false] rfl rfl (by kernel_rfl) (fun _ _ _ h => h) (Or.inl ⟨by rfl, ?_⟩) ?_ ?_
  rotate_left
  · intro w'
    go_simp
    with_reducible rfl
  rotate_left
  · simp only [Act.put, List.setIfInBounds_toArray, List.set_cons_zero, List.set_cons_succ, i64_w, i32_w]
    rfl
  refine pure_ (i := 19) (N := some 0) (v := ?_) (a' := ?_) #[true, true, true, true, true, true, true, true, true, true, true, true, true, true, true, true, true, true, true, true] rfl rfl (by kernel_rfl) (fun _ _ _ h => h) (Or.inl ⟨by rfl, ?_⟩) ?_ ?_
  rotate_left
  · intro w'
    go_simp
    with_reducible rfl
  rotate_left
  · simp only [Act.put, List.setIfInBounds_toArray, List.set_cons_zero, List.set_cons_succ, i64_w, i32_w]
    rfl
  refine done_ (by kernel_rfl) ?_
  go_wp2
  go_ret
  exact ⟨rfl, below_then (below_then HB4.out HB4.out.size HB5.out) (Nat.le_trans HB4.out.size HB5.out.size) HB6.out⟩
theorem estreatlaw26_awake.calls (r : Bool) (w : World) (hG : ErrT w) (h : estreatlaw26_awake.f = some r) :
    Calls Tryz.prog 9 #[] w fun e w' => e = .returned (.bool r) ∧ Below w.heap.size w w' := by
  obtain rfl := Option.some.inj h
  exact m_awake w hG

end Go.Proofs.YtjmhiklmlgbifaaGreatDoor.PMan
end
section
-- Printed for this claim by a program of this session's own (it runs the kit's print another way): Lean checks it.
namespace Go.Proofs.YtjmhiklmlgbifaaGreatDoor.PMan
open Go.RowKit Go.Proofs.YtjmhiklmlgbifaaGreatDoorW.PrintWords Go.Proofs.YtjmhiklmlgbifaaGreatDoorW.PrintLast Go.Proofs.YtjmhiklmlgbifaaGreatDoorW.PrintMore
attribute [local go_sem] max2_int min2_int max_two min_two max_three min_three max_four min_four   -- for this text's walks alone
set_option linter.unusedVariables false
set_option linter.unusedSimpArgs false

/-! ### estreatlaw26_ManifestChunks: function 7 -/
mutual
def estreatlaw26_ManifestChunks.j0 : Nat → List (List Int) → List Int → Int → Bool → Option (Bool)
  | 0, _, _, _, _ => none
  | k + 1, x0, x1, x2, x21 => if x21 = true then ((estreatlaw26_awake.f).bind fun t213 => (some t213)) else ((manifest_PutChunks.f k x0).bind fun bt214 => ((manifest_TakeChunks.f k bt214.1 (x0.length : Int)).bind fun bt218 => (if bt214.2 = 0 then (if bt218.2 = 0 then ((estreatref04_SameAll.f k bt218.1 x0).bind fun t222 => (estreatlaw26_ManifestChunks.j1 k x1 x2 (!t222))) else (estreatlaw26_ManifestChunks.j1 k x1 x2 true)) else (estreatlaw26_ManifestChunks.j1 k x1 x2 true))))
def estreatlaw26_ManifestChunks.j1 : Nat → List Int → Int → Bool → Option (Bool)
  | 0, _, _, _ => none
  | k + 1, x1, x2, x46 => if x46 = true then (some false) else ((estreatref04_All.f k x1).bind fun bt223 => ((manifest_TakeChunks.f k x1 x2).bind fun bt227 => (if (bt223.1.length : Int) = x2 then (estreatlaw26_ManifestChunks.j2 k bt223.1 bt227.1 bt227.2 (bt223.2 != (x1.length : Int))) else (estreatlaw26_ManifestChunks.j2 k bt223.1 bt227.1 bt227.2 true))))
def estreatlaw26_ManifestChunks.j2 : Nat → List (List Int) → List (List Int) → Int → Bool → Option (Bool)
  | 0, _, _, _, _ => none
  | k + 1, x11, x13, x14, x67 => if x67 = true then (if x14 = 4 then (if (x13.length : Int) = 0 then ((estreatlaw26_awake.f).bind fun t231 => (some t231)) else (some false)) else (some false)) else (if x14 = 0 then ((estreatref04_SameAll.f k x11 x13).bind fun t232 => (if t232 = true then ((estreatlaw26_awake.f).bind fun t233 => (some t233)) else (some false))) else (some false))
end
def estreatlaw26_ManifestChunks.f (k : Nat) (l0 : List (List Int)) (l1 : List Int) (a2 : Int) : Option (Bool) := (estreatref19_Great.f k l0 30 200).bind fun t212 => (if t212 = true then (estreatlaw26_ManifestChunks.j0 k l0 l1 a2 true) else (estreatlaw26_ManifestChunks.j0 k l0 l1 a2 (decide ((l1.length : Int) > 4000))))
theorem estreatlaw26_ManifestChunks.mono_l : ∀ k, (∀ y0 y1 y2 y3, LeO (estreatlaw26_ManifestChunks.j0 k y0 y1 y2 y3) (estreatlaw26_ManifestChunks.j0 (k + 1) y0 y1 y2 y3)) ∧ (∀ y0 y1 y2, LeO (estreatlaw26_ManifestChunks.j1 k y0 y1 y2) (estreatlaw26_ManifestChunks.j1 (k + 1) y0 y1 y2)) ∧ (∀ y0 y1 y2 y3, LeO (estreatlaw26_ManifestChunks.j2 k y0 y1 y2 y3) (estreatlaw26_ManifestChunks.j2 (k + 1) y0 y1 y2 y3))
  | 0 => ⟨fun _ _ _ _ r h => by simp [estreatlaw26_ManifestChunks.j0] at h, fun _ _ _ r h => by simp [estreatlaw26_ManifestChunks.j1] at h, fun _ _ _ _ r h => by simp [estreatlaw26_ManifestChunks.j2] at h⟩
  | k + 1 => by
    obtain ⟨ih0, ih1, ih2⟩ := estreatlaw26_ManifestChunks.mono_l k
    refine ⟨?_, ?_, ?_⟩
    · intro y0 y1 y2 y3
      unfold estreatlaw26_ManifestChunks.j0
      repeat' first
      | (with_reducible exact ih0 _ _ _ _)
      | (with_reducible exact ih1 _ _ _)
      | (with_reducible exact ih2 _ _ _ _)
      | (with_reducible exact estreatref04_All.mono _ _)
      | (with_reducible exact estreatref04_SameAll.mono _ _ _)
      | (with_reducible exact estreatref19_Great.mono _ _ _ _)
      | (with_reducible exact manifest_PutChunks.mono _ _)
      | (with_reducible exact manifest_TakeChunks.mono _ _ _)
      | (with_reducible exact LeO.refl _)
      | (with_reducible exact LeO.none _)
      | (with_reducible refine LeO.ite ?_ ?_)
      | (with_reducible refine LeO.bind ?_ (fun _ => ?_))
      | exact ih0 _ _ _ _
      | exact ih1 _ _ _
      | exact ih2 _ _ _ _
      | exact estreatref04_All.mono _ _
      | exact estreatref04_SameAll.mono _ _ _
      | exact estreatref19_Great.mono _ _ _ _
      | exact manifest_PutChunks.mono _ _
      | exact manifest_TakeChunks.mono _ _ _
      | exact LeO.none _
      | refine LeO.ite ?_ ?_
      | refine LeO.bind ?_ (fun _ => ?_)
    · intro y0 y1 y2
      unfold estreatlaw26_ManifestChunks.j1
      repeat' first
      | (with_reducible exact ih0 _ _ _ _)
      | (with_reducible exact ih1 _ _ _)
      | (with_reducible exact ih2 _ _ _ _)
      | (with_reducible exact estreatref04_All.mono _ _)
      | (with_reducible exact estreatref04_SameAll.mono _ _ _)
      | (with_reducible exact estreatref19_Great.mono _ _ _ _)
      | (with_reducible exact manifest_PutChunks.mono _ _)
      | (with_reducible exact manifest_TakeChunks.mono _ _ _)
      | (with_reducible exact LeO.refl _)
      | (with_reducible exact LeO.none _)
      | (with_reducible refine LeO.ite ?_ ?_)
      | (with_reducible refine LeO.bind ?_ (fun _ => ?_))
      | exact ih0 _ _ _ _
      | exact ih1 _ _ _
      | exact ih2 _ _ _ _
      | exact estreatref04_All.mono _ _
      | exact estreatref04_SameAll.mono _ _ _
      | exact estreatref19_Great.mono _ _ _ _
      | exact manifest_PutChunks.mono _ _
      | exact manifest_TakeChunks.mono _ _ _
      | exact LeO.none _
      | refine LeO.ite ?_ ?_
      | refine LeO.bind ?_ (fun _ => ?_)
    · intro y0 y1 y2 y3
      unfold estreatlaw26_ManifestChunks.j2
      repeat' first
      | (with_reducible exact ih0 _ _ _ _)
      | (with_reducible exact ih1 _ _ _)
      | (with_reducible exact ih2 _ _ _ _)
      | (with_reducible exact estreatref04_All.mono _ _)
      | (with_reducible exact estreatref04_SameAll.mono _ _ _)
      | (with_reducible exact estreatref19_Great.mono _ _ _ _)
      | (with_reducible exact manifest_PutChunks.mono _ _)
      | (with_reducible exact manifest_TakeChunks.mono _ _ _)
      | (with_reducible exact LeO.refl _)
      | (with_reducible exact LeO.none _)
      | (with_reducible refine LeO.ite ?_ ?_)
      | (with_reducible refine LeO.bind ?_ (fun _ => ?_))
      | exact ih0 _ _ _ _
      | exact ih1 _ _ _
      | exact ih2 _ _ _ _
      | exact estreatref04_All.mono _ _
      | exact estreatref04_SameAll.mono _ _ _
      | exact estreatref19_Great.mono _ _ _ _
      | exact manifest_PutChunks.mono _ _
      | exact manifest_TakeChunks.mono _ _ _
      | exact LeO.none _
      | refine LeO.ite ?_ ?_
      | refine LeO.bind ?_ (fun _ => ?_)
theorem estreatlaw26_ManifestChunks.mono : ∀ a0 a1 a2 k, LeO (estreatlaw26_ManifestChunks.f k a0 a1 a2) (estreatlaw26_ManifestChunks.f (k + 1) a0 a1 a2) := by
  intro a0 a1 a2 k
  obtain ⟨ih0, ih1, ih2⟩ := estreatlaw26_ManifestChunks.mono_l k
  unfold estreatlaw26_ManifestChunks.f
  repeat' first
      | (with_reducible exact ih0 _ _ _ _)
      | (with_reducible exact ih1 _ _ _)
      | (with_reducible exact ih2 _ _ _ _)
      | (with_reducible exact estreatref04_All.mono _ _)
      | (with_reducible exact estreatref04_SameAll.mono _ _ _)
      | (with_reducible exact estreatref19_Great.mono _ _ _ _)
      | (with_reducible exact manifest_PutChunks.mono _ _)
      | (with_reducible exact manifest_TakeChunks.mono _ _ _)
      | (with_reducible exact LeO.refl _)
      | (with_reducible exact LeO.none _)
      | (with_reducible refine LeO.ite ?_ ?_)
      | (with_reducible refine LeO.bind ?_ (fun _ => ?_))
      | exact ih0 _ _ _ _
      | exact ih1 _ _ _
      | exact ih2 _ _ _ _
      | exact estreatref04_All.mono _ _
      | exact estreatref04_SameAll.mono _ _ _
      | exact estreatref19_Great.mono _ _ _ _
      | exact manifest_PutChunks.mono _ _
      | exact manifest_TakeChunks.mono _ _ _
      | exact LeO.none _
      | refine LeO.ite ?_ ?_
      | refine LeO.bind ?_ (fun _ => ?_)
set_option maxHeartbeats 8000000 in
set_option maxRecDepth 100000 in
theorem estreatlaw26_ManifestChunks.calls (k : Nat) (A0 : Option Addr) (c0 : Nat) (l0 : List (List Int)) (A1 : Option Addr) (c1 : Nat) (l1 : List Int) (a2 : Int) (r : Bool) (w : World) (hr0 : Kd.C (Kd.slice 5 (Kd.int .u8)) w A0 l0.length l0) (hc0 : l0.length ≤ c0) (hr1 : Kd.C (Kd.int .u8) w A1 l1.length l1) (hc1 : l1.length ≤ c1) (hG : ErrT w) (h : estreatlaw26_ManifestChunks.f k l0 l1 a2 = some r) :
    Calls Tryz.prog 7 #[.slice A0 l0.length c0, .slice A1 l1.length c1, .int .i64 a2] w fun e w' => e = .returned (.bool r) ∧ Below w.heap.size w w' := by
  have HR0 := Aside0.mk hr0
  have HC0 := Aside0.mk hc0
  clear hr0 hc0
  have HR1 := Aside0.mk hr1
  have HC1 := Aside0.mk hc1
  clear hr1 hc1
  have HB := Aside0.mk (Below.refl w.heap.size w)
  have HG := Aside0.mk hG
  clear hG
  have H : ((estreatref19_Great.f k l0 30 200).bind fun t212 => (if t212 = true then (estreatlaw26_ManifestChunks.j0 k l0 l1 a2 true) else (estreatlaw26_ManifestChunks.j0 k l0 l1 a2 (decide ((l1.length : Int) > 4000))))) = some r := h
  clear h
  have HC4 := Aside0.mk H
  clear H
  go_enter Tryz.func7, Tryz.ntmps7
  go_upto_region 1 with (fail)
  go_cut [21] (fun v21 wc => ∃ (kq : Nat) (x21_3 : Bool), v21 = .bool x21_3 ∧ Aside0 (estreatlaw26_ManifestChunks.j0 kq l0 l1 a2 x21_3 = some r) ∧ Aside0 (kq ≤ k) ∧ Aside0 (Below w.heap.size w wc))
  case first =>
    have H := HC4.out
    clear HC4
    replace H := Option.bind_eq_some_iff.mp H
    obtain ⟨t212, A50, H⟩ := H
    replace H : (if t212 = true then (estreatlaw26_ManifestChunks.j0 k l0 l1 a2 true) else (estreatlaw26_ManifestChunks.j0 k l0 l1 a2 (decide ((l1.length : Int) > 4000)))) = some r := H
    have A5 := Aside0.mk A50
    clear A50
    by_cases c6 : t212 = true
    · subst c6
      have H1 : (estreatlaw26_ManifestChunks.j0 k l0 l1 a2 true) = some r := by rw [if_pos rfl] at H; exact H
      clear H
      have H := H1
      clear H1
      have H' := Aside0.mk H
      clear H
      go_wp2_with (first | ((with_reducible refine gate_callee (f := 22) rfl ?_); refine goesL_ (some 16) rfl rfl Tryz.func22 (by kernel_rfl) rfl #[.slice A0 l0.length c0, .int .i64 30, .int .i64 200] rfl (by (try simp only [List.map_toArray, List.map_cons, List.map_nil]); first | done | rfl | (simp only [List.length_drop, List.length_take]; rfl)) ?_; (with_reducible refine (estreatref19_Great.calls k _ _ l0 30 200 true _ ?side1 ?side2 A5.out).mono ?_); (case side1 => repeat (first | exact (Kd.C_below HR0.out HB.out) | (with_reducible refine Kd.C_alloc ?_ _) | (with_reducible refine Kd.C_drewN ?_ _) | (with_reducible refine Kd.C_drew ?_))); (case side2 => exact HC0.out); rintro e w' ⟨rfl, ⟨nd, rfl⟩⟩; refine ⟨_, rfl, ?_⟩))
      go_meet
      case rel => exact ⟨_, (true), (by first | rfl | (simp; done) | (simp [*]; done)), H', ⟨by first | omega | exact Nat.le_refl _⟩, ⟨by repeat (first | (with_reducible first | exact HB.out | apply below_alloc | apply pw_below_drewN | apply below_drew1) | exact HB.out)⟩⟩
    · replace c6 := Bool.eq_false_iff.mpr c6
      subst c6
      have H1 : (estreatlaw26_ManifestChunks.j0 k l0 l1 a2 (decide ((l1.length : Int) > 4000))) = some r := by rw [if_neg (show ¬ (false = true) by decide)] at H; exact H
      clear H
      have H := H1
      clear H1
      have H' := Aside0.mk H
      clear H
      go_wp2_with (first | ((with_reducible refine gate_callee (f := 22) rfl ?_); refine goesL_ (some 16) rfl rfl Tryz.func22 (by kernel_rfl) rfl #[.slice A0 l0.length c0, .int .i64 30, .int .i64 200] rfl (by (try simp only [List.map_toArray, List.map_cons, List.map_nil]); first | done | rfl | (simp only [List.length_drop, List.length_take]; rfl)) ?_; (with_reducible refine (estreatref19_Great.calls k _ _ l0 30 200 false _ ?side1 ?side2 A5.out).mono ?_); (case side1 => repeat (first | exact (Kd.C_below HR0.out HB.out) | (with_reducible refine Kd.C_alloc ?_ _) | (with_reducible refine Kd.C_drewN ?_ _) | (with_reducible refine Kd.C_drew ?_))); (case side2 => exact HC0.out); rintro e w' ⟨rfl, ⟨nd, rfl⟩⟩; refine ⟨_, rfl, ?_⟩))
      go_meet
      case rel => exact ⟨_, (decide ((l1.length : Int) > 4000)), (by first | rfl | (simp; done) | (simp [*]; done)), H', ⟨by first | omega | exact Nat.le_refl _⟩, ⟨by repeat (first | (with_reducible first | exact HB.out | apply below_alloc | apply pw_below_drewN | apply below_drew1) | exact HB.out)⟩⟩
  case rest =>
    clear HC4
    try clear c1
    try clear c2
    try clear p2
    try clear c6
    obtain ⟨kq, x21_3, rfl, HA, HJ3, HB⟩ := hcut
    cases kq with
    | zero => exact absurd HA.out (by simp [estreatlaw26_ManifestChunks.j0])
    | succ kj3 =>
      have H := HA.out
      clear HA
      simp only [estreatlaw26_ManifestChunks.j0] at H
      by_cases c7 : x21_3 = true
      · subst c7
        have H1 : ((estreatlaw26_awake.f).bind fun t213 => (some t213)) = some r := by rw [if_pos rfl] at H; exact H
        clear H
        have H := H1
        clear H1
        replace H := Option.bind_eq_some_iff.mp H
        obtain ⟨t213, A80, H⟩ := H
        replace H : (some t213) = some r := H
        have A8 := Aside0.mk A80
        clear A80
        obtain rfl := Option.some.inj H
        go_wp2_with (first | ((with_reducible refine gate_callee (f := 9) rfl ?_); refine goesL_ (some 22) rfl rfl Tryz.func9 (by kernel_rfl) rfl #[] rfl (by (try simp only [List.map_toArray, List.map_cons, List.map_nil]); first | done | rfl | (simp only [List.length_drop, List.length_take]; rfl)) ?_; (with_reducible refine (estreatlaw26_awake.calls  t213 _ ?side1 A8.out).mono ?_); (case side1 => exact ErrT.of_below HG.out (by repeat (first | (with_reducible first | exact HB.out | apply below_alloc | apply pw_below_drewN | apply below_drew1) | exact HB.out))); rintro e w9 ⟨rfl, hb⟩; refine ⟨_, rfl, ?_⟩; have n0_ := Aside0.mk (below_step (by repeat (first | (with_reducible first | exact HB.out | apply below_alloc | apply pw_below_drewN | apply below_drew1) | exact HB.out)) hb); clear HB; have HB := n0_; clear n0_; (try clear hb); (try clear hb2); (try clear hk); (try clear hi)))
        go_ret
        exact ⟨by first | rfl | (simp [errW_none, errW_some] <;> rfl) | (simp [*, errW_none, errW_some] <;> rfl), by repeat (first | (with_reducible first | exact HB.out | apply below_alloc | apply pw_below_drewN | apply below_drew1) | exact HB.out)⟩
      · replace c7 := Bool.eq_false_iff.mpr c7
        subst c7
        have H1 : ((manifest_PutChunks.f kj3 l0).bind fun bt214 => ((manifest_TakeChunks.f kj3 bt214.1 (l0.length : Int)).bind fun bt218 => (if bt214.2 = 0 then (if bt218.2 = 0 then ((estreatref04_SameAll.f kj3 bt218.1 l0).bind fun t222 => (estreatlaw26_ManifestChunks.j1 kj3 l1 a2 (!t222))) else (estreatlaw26_ManifestChunks.j1 kj3 l1 a2 true)) else (estreatlaw26_ManifestChunks.j1 kj3 l1 a2 true)))) = some r := by rw [if_neg (show ¬ (false = true) by decide)] at H; exact H
        clear H
        have H := H1
        clear H1
        replace H := Option.bind_eq_some_iff.mp H
        obtain ⟨⟨t214, t215⟩, A100, H⟩ := H
        replace H : ((manifest_TakeChunks.f kj3 t214 (l0.length : Int)).bind fun bt218 => (if t215 = 0 then (if bt218.2 = 0 then ((estreatref04_SameAll.f kj3 bt218.1 l0).bind fun t222 => (estreatlaw26_ManifestChunks.j1 kj3 l1 a2 (!t222))) else (estreatlaw26_ManifestChunks.j1 kj3 l1 a2 true)) else (estreatlaw26_ManifestChunks.j1 kj3 l1 a2 true))) = some r := H
        have A10 := Aside0.mk A100
        clear A100
        replace H := Option.bind_eq_some_iff.mp H
        obtain ⟨⟨t218, t219⟩, A110, H⟩ := H
        replace H : (if t215 = 0 then (if t219 = 0 then ((estreatref04_SameAll.f kj3 t218 l0).bind fun t222 => (estreatlaw26_ManifestChunks.j1 kj3 l1 a2 (!t222))) else (estreatlaw26_ManifestChunks.j1 kj3 l1 a2 true)) else (estreatlaw26_ManifestChunks.j1 kj3 l1 a2 true)) = some r := H
        have A11 := Aside0.mk A110
        clear A110
        have HC12 := Aside0.mk H
        clear H
        go_upto_region 5 with (first | ((with_reducible refine gate_callee (f := 23) rfl ?_); refine goesL_ (some 25) rfl rfl Tryz.func23 (by kernel_rfl) rfl #[.slice A0 l0.length c0] rfl (by (try simp only [List.map_toArray, List.map_cons, List.map_nil]); first | done | rfl | (simp only [List.length_drop, List.length_take]; rfl)) ?_; (with_reducible refine (manifest_PutChunks.calls kj3 _ _ l0 t214 t215 _ ?side1 ?side2 A10.out).mono ?_); (case side1 => repeat (first | exact (Kd.C_below HR0.out HB.out) | (with_reducible refine Kd.C_alloc ?_ _) | (with_reducible refine Kd.C_drewN ?_ _) | (with_reducible refine Kd.C_drew ?_))); (case side2 => exact HC0.out); rintro e w13 ⟨v216, rfl, ho0, hb⟩; refine ⟨_, rfl, ?_⟩; have n0_ := Aside0.mk (Kd.R_lower ho0 (below_size (by repeat (first | (with_reducible first | exact HB.out | apply below_alloc | apply pw_below_drewN | apply below_drew1) | exact HB.out)))); have n1_ := Aside0.mk (below_step (by repeat (first | (with_reducible first | exact HB.out | apply below_alloc | apply pw_below_drewN | apply below_drew1) | exact HB.out)) hb); clear HB; have HO217 := n0_; have HB := n1_; clear n0_ n1_; (try clear hb); (try clear hb2); (try clear hk); (try clear hi); (try clear ho0); obtain ⟨Ao14, co14, eo14⟩ := Kd.R_slice HO217.out; subst eo14) | ((with_reducible refine gate_callee (f := 24) rfl ?_); refine goesL_ (some 32) rfl rfl Tryz.func24 (by kernel_rfl) rfl #[.slice Ao14 t214.length co14, .int .i64 (l0.length : Int)] rfl (by (try simp only [List.map_toArray, List.map_cons, List.map_nil]); first | done | rfl | (simp only [List.length_drop, List.length_take]; rfl)) ?_; (with_reducible refine (manifest_TakeChunks.calls kj3 _ _ t214 (l0.length : Int) t218 t219 _ ?side1 ?side2 ?side3 A11.out).mono ?_); (case side1 => repeat (first | exact (Kd.R_reads' HO217.out).2.2 | (with_reducible refine Kd.C_alloc ?_ _) | (with_reducible refine Kd.C_drewN ?_ _) | (with_reducible refine Kd.C_drew ?_))); (case side2 => exact (Kd.R_reads' HO217.out).2.1); (case side3 => exact ErrT.of_below HG.out (by repeat (first | (with_reducible first | exact HB.out | apply below_alloc | apply pw_below_drewN | apply below_drew1) | exact HB.out))); rintro e w15 ⟨v220, rfl, ho0, hb⟩; refine ⟨_, rfl, ?_⟩; have n0_ := Aside0.mk (Kd.R_below (by (with_reducible repeat (first | apply Kd.R_alloc | apply Kd.R_drewN | apply Kd.R_drew)); exact HO217.out) hb); have n1_ := Aside0.mk (Kd.S_lower (Kd.S_new' ho0 (Kd.R_lt (by (with_reducible repeat (first | apply Kd.R_alloc | apply Kd.R_drewN | apply Kd.R_drew)); exact HO217.out))) (below_size (by repeat (first | (with_reducible first | exact HB.out | apply below_alloc | apply pw_below_drewN | apply below_drew1) | exact HB.out)))); have n2_ := Aside0.mk (below_step (by repeat (first | (with_reducible first | exact HB.out | apply below_alloc | apply pw_below_drewN | apply below_drew1) | exact HB.out)) hb); clear HO217; clear HB; have HO217 := n0_; have HO221 := n1_; have HB := n2_; clear n0_ n1_ n2_; (try clear hb); (try clear hb2); (try clear hk); (try clear hi); (try clear ho0)))
        (try simp only [Act.put, List.setIfInBounds_toArray, List.set_cons_zero, List.set_cons_succ])
        go_cut [46] (fun v46 wc => ∃ (kq : Nat) (x46_11 : Bool), v46 = .bool x46_11 ∧ Aside0 (estreatlaw26_ManifestChunks.j1 kq l1 a2 x46_11 = some r) ∧ Aside0 (kq ≤ kj3) ∧ Aside0 (Below w.heap.size w wc))
        case first =>
          have H := HC12.out
          clear HC12
          by_cases c16 : t215 = 0
          · rw [if_pos c16] at H
            have c16b0 : (t215 == 0) = true := beq_iff_eq.mpr c16
            have c16b1 : (t215 != 0) = false := bne_eq_false_iff_eq.mpr c16
            clear c16
            (first | rw [c16b0] | (simp only [i64_w, i32_w]; rw [c16b0]) | skip)
            by_cases c17 : t219 = 0
            · rw [if_pos c17] at H
              have c17b0 : (t219 == 0) = true := beq_iff_eq.mpr c17
              have c17b1 : (t219 != 0) = false := bne_eq_false_iff_eq.mpr c17
              clear c17
              replace H := Option.bind_eq_some_iff.mp H
              obtain ⟨t222, A180, H⟩ := H
              replace H : (estreatlaw26_ManifestChunks.j1 kj3 l1 a2 (!t222)) = some r := H
              have A18 := Aside0.mk A180
              clear A180
              have H' := Aside0.mk H
              clear H
              obtain ⟨Ao19, co19, eo19⟩ := Kd.S_slice HO221.out
              subst eo19
              go_wp2_with (first | (go_at_call 25; (with_reducible refine (estreatref04_SameAll.calls kj3 _ _ t218 _ _ l0 t222 _ ?side1 ?side2 ?side3 ?side4 A18.out).mono ?_); (case side1 => repeat (first | exact (Kd.S_reads' HO221.out).2.2 | (with_reducible refine Kd.C_alloc ?_ _) | (with_reducible refine Kd.C_drewN ?_ _) | (with_reducible refine Kd.C_drew ?_))); (case side2 => exact (Kd.S_reads' HO221.out).2.1); (case side3 => repeat (first | exact (Kd.C_below HR0.out HB.out) | (with_reducible refine Kd.C_alloc ?_ _) | (with_reducible refine Kd.C_drewN ?_ _) | (with_reducible refine Kd.C_drew ?_))); (case side4 => exact HC0.out); rintro e w' ⟨rfl, ⟨nd, rfl⟩⟩))
              go_meet
              case rel => exact ⟨_, (!t222), (by first | rfl | (simp; done) | (simp [*]; done)), H', ⟨by have := HJ3.out; first | omega | exact Nat.le_refl _⟩, ⟨by repeat (first | (with_reducible first | exact HB.out | apply below_alloc | apply pw_below_drewN | apply below_drew1) | exact HB.out)⟩⟩
            · rw [if_neg c17] at H
              have c17b0 : (t219 == 0) = false := beq_eq_false_iff_ne.mpr c17
              have c17b1 : (t219 != 0) = true := bne_iff_ne.mpr c17
              have H' := Aside0.mk H
              clear H
              go_wp2
              go_meet
              case rel => exact ⟨_, (true), (by first | rfl | (simp; done) | (simp [*]; done)), H', ⟨by have := HJ3.out; first | omega | exact Nat.le_refl _⟩, ⟨by repeat (first | (with_reducible first | exact HB.out | apply below_alloc | apply pw_below_drewN | apply below_drew1) | exact HB.out)⟩⟩
          · rw [if_neg c16] at H
            have c16b0 : (t215 == 0) = false := beq_eq_false_iff_ne.mpr c16
            have c16b1 : (t215 != 0) = true := bne_iff_ne.mpr c16
            (first | rw [c16b0] | (simp only [i64_w, i32_w]; rw [c16b0]) | skip)
            have H' := Aside0.mk H
            clear H
            go_wp2
            go_meet
            case rel => exact ⟨_, (true), (by first | rfl | (simp; done) | (simp [*]; done)), H', ⟨by have := HJ3.out; first | omega | exact Nat.le_refl _⟩, ⟨by repeat (first | (with_reducible first | exact HB.out | apply below_alloc | apply pw_below_drewN | apply below_drew1) | exact HB.out)⟩⟩
        case rest =>
          clear HC12
          try clear c1
          try clear c2
          try clear p2
          try clear c6
          try clear c7
          try clear c9
          try clear c16
          try clear c16b0
          try clear c16b1
          try clear c17
          try clear c17b0
          try clear c17b1
          try clear p2
          obtain ⟨kq, x46_11, rfl, HA, HJ11, HB⟩ := hcut
          cases kq with
          | zero => exact absurd HA.out (by simp [estreatlaw26_ManifestChunks.j1])
          | succ kj11 =>
            have H := HA.out
            clear HA
            simp only [estreatlaw26_ManifestChunks.j1] at H
            by_cases c20 : x46_11 = true
            · subst c20
              have H1 : (some false) = some r := by rw [if_pos rfl] at H; exact H
              clear H
              have H := H1
              clear H1
              obtain rfl := Option.some.inj H
              go_wp2
              go_ret
              exact ⟨by first | rfl | (simp [errW_none, errW_some] <;> rfl) | (simp [*, errW_none, errW_some] <;> rfl), by repeat (first | (with_reducible first | exact HB.out | apply below_alloc | apply pw_below_drewN | apply below_drew1) | exact HB.out)⟩
            · replace c20 := Bool.eq_false_iff.mpr c20
              subst c20
              have H1 : ((estreatref04_All.f kj11 l1).bind fun bt223 => ((manifest_TakeChunks.f kj11 l1 a2).bind fun bt227 => (if (bt223.1.length : Int) = a2 then (estreatlaw26_ManifestChunks.j2 kj11 bt223.1 bt227.1 bt227.2 (bt223.2 != (l1.length : Int))) else (estreatlaw26_ManifestChunks.j2 kj11 bt223.1 bt227.1 bt227.2 true)))) = some r := by rw [if_neg (show ¬ (false = true) by decide)] at H; exact H
              clear H
              have H := H1
              clear H1
              replace H := Option.bind_eq_some_iff.mp H
              obtain ⟨⟨t223, t224⟩, A210, H⟩ := H
              replace H : ((manifest_TakeChunks.f kj11 l1 a2).bind fun bt227 => (if (t223.length : Int) = a2 then (estreatlaw26_ManifestChunks.j2 kj11 t223 bt227.1 bt227.2 (t224 != (l1.length : Int))) else (estreatlaw26_ManifestChunks.j2 kj11 t223 bt227.1 bt227.2 true))) = some r := H
              have A21 := Aside0.mk A210
              clear A210
              replace H := Option.bind_eq_some_iff.mp H
              obtain ⟨⟨t227, t228⟩, A220, H⟩ := H
              replace H : (if (t223.length : Int) = a2 then (estreatlaw26_ManifestChunks.j2 kj11 t223 t227 t228 (t224 != (l1.length : Int))) else (estreatlaw26_ManifestChunks.j2 kj11 t223 t227 t228 true)) = some r := H
              have A22 := Aside0.mk A220
              clear A220
              have HC23 := Aside0.mk H
              clear H
              go_upto_region 9 with (first | ((with_reducible refine gate_callee (f := 26) rfl ?_); refine goesL_ (some 49) rfl rfl Tryz.func26 (by kernel_rfl) rfl #[.slice A1 l1.length c1] rfl (by (try simp only [List.map_toArray, List.map_cons, List.map_nil]); first | done | rfl | (simp only [List.length_drop, List.length_take]; rfl)) ?_; (with_reducible refine (estreatref04_All.calls kj11 _ _ l1 t223 t224 _ ?side1 ?side2 A21.out).mono ?_); (case side1 => repeat (first | exact (Kd.C_below HR1.out HB.out) | (with_reducible refine Kd.C_alloc ?_ _) | (with_reducible refine Kd.C_drewN ?_ _) | (with_reducible refine Kd.C_drew ?_))); (case side2 => exact HC1.out); rintro e w24 ⟨v225, rfl, ho0, hb⟩; refine ⟨_, rfl, ?_⟩; have n0_ := Aside0.mk (Kd.S_lower ho0 (below_size (by repeat (first | (with_reducible first | exact HB.out | apply below_alloc | apply pw_below_drewN | apply below_drew1) | exact HB.out)))); have n1_ := Aside0.mk (below_step (by repeat (first | (with_reducible first | exact HB.out | apply below_alloc | apply pw_below_drewN | apply below_drew1) | exact HB.out)) hb); clear HB; have HO226 := n0_; have HB := n1_; clear n0_ n1_; (try clear hb); (try clear hb2); (try clear hk); (try clear hi); (try clear ho0)) | ((with_reducible refine gate_callee (f := 24) rfl ?_); refine goesL_ (some 55) rfl rfl Tryz.func24 (by kernel_rfl) rfl #[.slice A1 l1.length c1, .int .i64 a2] rfl (by (try simp only [List.map_toArray, List.map_cons, List.map_nil]); first | done | rfl | (simp only [List.length_drop, List.length_take]; rfl)) ?_; (with_reducible refine (manifest_TakeChunks.calls kj11 _ _ l1 a2 t227 t228 _ ?side1 ?side2 ?side3 A22.out).mono ?_); (case side1 => repeat (first | exact (Kd.C_below HR1.out HB.out) | (with_reducible refine Kd.C_alloc ?_ _) | (with_reducible refine Kd.C_drewN ?_ _) | (with_reducible refine Kd.C_drew ?_))); (case side2 => exact HC1.out); (case side3 => exact ErrT.of_below HG.out (by repeat (first | (with_reducible first | exact HB.out | apply below_alloc | apply pw_below_drewN | apply below_drew1) | exact HB.out))); rintro e w25 ⟨v229, rfl, ho0, hb⟩; refine ⟨_, rfl, ?_⟩; have n0_ := Aside0.mk (Kd.S_elder' (by (with_reducible repeat (first | apply Kd.S_alloc | apply Kd.S_drewN | apply Kd.S_drew)); exact HO226.out) (Kd.S_base ho0) hb); have n1_ := Aside0.mk (Kd.S_lower (Kd.S_new' ho0 (Kd.S_lt (by (with_reducible repeat (first | apply Kd.S_alloc | apply Kd.S_drewN | apply Kd.S_drew)); exact HO226.out))) (below_size (by repeat (first | (with_reducible first | exact HB.out | apply below_alloc | apply pw_below_drewN | apply below_drew1) | exact HB.out)))); have n2_ := Aside0.mk (below_step (by repeat (first | (with_reducible first | exact HB.out | apply below_alloc | apply pw_below_drewN | apply below_drew1) | exact HB.out)) hb); clear HO226; clear HB; have HO226 := n0_; have HO230 := n1_; have HB := n2_; clear n0_ n1_ n2_; (try clear hb); (try clear hb2); (try clear hk); (try clear hi); (try clear ho0)))
              (try simp only [Act.put, List.setIfInBounds_toArray, List.set_cons_zero, List.set_cons_succ])
              go_cut [67] (fun v67 wc => ∃ (kq : Nat) (x67_22 : Bool), v67 = .bool x67_22 ∧ Aside0 (estreatlaw26_ManifestChunks.j2 kq t223 t227 t228 x67_22 = some r) ∧ Aside0 (kq ≤ kj11) ∧ Aside0 (Kd.S (Kd.slice 5 (Kd.int .u8)) 30 wc w.heap.size (fun k_ => some k_ ≠ (v229 : Value).ownBlock) v225 t223) ∧ Aside0 (Kd.S (Kd.slice 5 (Kd.int .u8)) 30 wc w.heap.size (fun k_ => some k_ ≠ (v225 : Value).ownBlock) v229 t227) ∧ Aside0 (Below w.heap.size w wc))
              case first =>
                have H := HC23.out
                clear HC23
                by_cases c26 : (t223.length : Int) = a2
                · rw [if_pos c26] at H
                  have c26b0 : ((t223.length : Int) == a2) = true := beq_iff_eq.mpr c26
                  have c26b1 : ((t223.length : Int) != a2) = false := bne_eq_false_iff_eq.mpr c26
                  clear c26
                  (first | rw [c26b0] | (simp only [i64_w, i32_w]; rw [c26b0]) | skip)
                  have H' := Aside0.mk H
                  clear H
                  obtain ⟨Ao27, co27, eo27⟩ := Kd.S_slice HO226.out
                  subst eo27
                  go_wp2
                  go_meet
                  case rel => exact ⟨_, ((t224 != (l1.length : Int))), (by first | rfl | (simp; done) | (simp [*]; done)), H', ⟨by have := HJ3.out; have := HJ11.out; first | omega | exact Nat.le_refl _⟩, ⟨by (with_reducible repeat (first | apply Kd.S_alloc | apply Kd.S_drewN | apply Kd.S_drew)); exact Kd.S_mono HO226.out (fun _ hk => hk.2)⟩, ⟨by (with_reducible repeat (first | apply Kd.S_alloc | apply Kd.S_drewN | apply Kd.S_drew)); exact Kd.S_mono HO230.out (fun _ hk => hk.2)⟩, ⟨by repeat (first | (with_reducible first | exact HB.out | apply below_alloc | apply pw_below_drewN | apply below_drew1) | exact HB.out)⟩⟩
                · rw [if_neg c26] at H
                  have c26b0 : ((t223.length : Int) == a2) = false := beq_eq_false_iff_ne.mpr c26
                  have c26b1 : ((t223.length : Int) != a2) = true := bne_iff_ne.mpr c26
                  (first | rw [c26b0] | (simp only [i64_w, i32_w]; rw [c26b0]) | skip)
                  have H' := Aside0.mk H
                  clear H
                  obtain ⟨Ao28, co28, eo28⟩ := Kd.S_slice HO226.out
                  subst eo28
                  go_wp2
                  go_meet
                  case rel => exact ⟨_, (true), (by first | rfl | (simp; done) | (simp [*]; done)), H', ⟨by have := HJ3.out; have := HJ11.out; first | omega | exact Nat.le_refl _⟩, ⟨by (with_reducible repeat (first | apply Kd.S_alloc | apply Kd.S_drewN | apply Kd.S_drew)); exact Kd.S_mono HO226.out (fun _ hk => hk.2)⟩, ⟨by (with_reducible repeat (first | apply Kd.S_alloc | apply Kd.S_drewN | apply Kd.S_drew)); exact Kd.S_mono HO230.out (fun _ hk => hk.2)⟩, ⟨by repeat (first | (with_reducible first | exact HB.out | apply below_alloc | apply pw_below_drewN | apply below_drew1) | exact HB.out)⟩⟩
              case rest =>
                clear HC23
                try clear c1
                try clear c2
                try clear p2
                try clear c6
                try clear c7
                try clear c9
                try clear c16
                try clear c16b0
                try clear c16b1
                try clear c17
                try clear c17b0
                try clear c17b1
                try clear c20
                try clear c22
                try clear c23
                try clear c24
                try clear c26
                try clear c26b0
                try clear c26b1
                try clear p2
                obtain ⟨kq, x67_22, rfl, HA, HJ22, HO_11, HO_13, HB⟩ := hcut
                cases kq with
                | zero => exact absurd HA.out (by simp [estreatlaw26_ManifestChunks.j2])
                | succ kj22 =>
                  have H := HA.out
                  clear HA
                  simp only [estreatlaw26_ManifestChunks.j2] at H
                  by_cases c29 : x67_22 = true
                  · subst c29
                    have H1 : (if t228 = 4 then (if (t227.length : Int) = 0 then ((estreatlaw26_awake.f).bind fun t231 => (some t231)) else (some false)) else (some false)) = some r := by rw [if_pos rfl] at H; exact H
                    clear H
                    have H := H1
                    clear H1
                    by_cases c30 : t228 = 4
                    · rw [if_pos c30] at H
                      have c30b0 : (t228 == 4) = true := beq_iff_eq.mpr c30
                      have c30b1 : (t228 != 4) = false := bne_eq_false_iff_eq.mpr c30
                      clear c30
                      by_cases c31 : (t227.length : Int) = 0
                      · rw [if_pos c31] at H
                        have c31b0 : ((t227.length : Int) == 0) = true := beq_iff_eq.mpr c31
                        have c31b1 : ((t227.length : Int) != 0) = false := bne_eq_false_iff_eq.mpr c31
                        clear c31
                        replace H := Option.bind_eq_some_iff.mp H
                        obtain ⟨t231, A320, H⟩ := H
                        replace H : (some t231) = some r := H
                        have A32 := Aside0.mk A320
                        clear A320
                        obtain rfl := Option.some.inj H
                        obtain ⟨Ao33, co33, eo33⟩ := Kd.S_slice HO_13.out
                        subst eo33
                        go_wp2_with (first | (go_at_call 9; (with_reducible refine (estreatlaw26_awake.calls  t231 _ ?side1 A32.out).mono ?_); (case side1 => exact ErrT.of_below HG.out (by repeat (first | (with_reducible first | exact HB.out | apply below_alloc | apply pw_below_drewN | apply below_drew1) | exact HB.out))); rintro e w34 ⟨rfl, hb⟩; have n0_ := Aside0.mk (Kd.S_below (by (with_reducible repeat (first | apply Kd.S_alloc | apply Kd.S_drewN | apply Kd.S_drew)); exact HO_11.out) hb); have n1_ := Aside0.mk (Kd.S_below (by (with_reducible repeat (first | apply Kd.S_alloc | apply Kd.S_drewN | apply Kd.S_drew)); exact HO_13.out) hb); have n2_ := Aside0.mk (below_step (by repeat (first | (with_reducible first | exact HB.out | apply below_alloc | apply pw_below_drewN | apply below_drew1) | exact HB.out)) hb); clear HO_11; clear HO_13; clear HB; have HO_11 := n0_; have HO_13 := n1_; have HB := n2_; clear n0_ n1_ n2_; (try clear hb); (try clear hb2); (try clear hk); (try clear hi)))
                        go_ret
                        exact ⟨by first | rfl | (simp [errW_none, errW_some] <;> rfl) | (simp [*, errW_none, errW_some] <;> rfl), by repeat (first | (with_reducible first | exact HB.out | apply below_alloc | apply pw_below_drewN | apply below_drew1) | exact HB.out)⟩
                      · rw [if_neg c31] at H
                        have c31b0 : ((t227.length : Int) == 0) = false := beq_eq_false_iff_ne.mpr c31
                        have c31b1 : ((t227.length : Int) != 0) = true := bne_iff_ne.mpr c31
                        have c31b2 : ¬ (t227 = []) := fun h_ => c31 (by rw [h_]; rfl)
                        obtain rfl := Option.some.inj H
                        obtain ⟨Ao35, co35, eo35⟩ := Kd.S_slice HO_13.out
                        subst eo35
                        go_wp2
                        go_ret
                        exact ⟨by first | rfl | (simp [errW_none, errW_some] <;> rfl) | (simp [*, errW_none, errW_some] <;> rfl), by repeat (first | (with_reducible first | exact HB.out | apply below_alloc | apply pw_below_drewN | apply below_drew1) | exact HB.out)⟩
                    · rw [if_neg c30] at H
                      have c30b0 : (t228 == 4) = false := beq_eq_false_iff_ne.mpr c30
                      have c30b1 : (t228 != 4) = true := bne_iff_ne.mpr c30
                      obtain rfl := Option.some.inj H
                      go_wp2
                      go_ret
                      exact ⟨by first | rfl | (simp [errW_none, errW_some] <;> rfl) | (simp [*, errW_none, errW_some] <;> rfl), by repeat (first | (with_reducible first | exact HB.out | apply below_alloc | apply pw_below_drewN | apply below_drew1) | exact HB.out)⟩
                  · replace c29 := Bool.eq_false_iff.mpr c29
                    subst c29
                    have H1 : (if t228 = 0 then ((estreatref04_SameAll.f kj22 t223 t227).bind fun t232 => (if t232 = true then ((estreatlaw26_awake.f).bind fun t233 => (some t233)) else (some false))) else (some false)) = some r := by rw [if_neg (show ¬ (false = true) by decide)] at H; exact H
                    clear H
                    have H := H1
                    clear H1
                    by_cases c36 : t228 = 0
                    · rw [if_pos c36] at H
                      have c36b0 : (t228 == 0) = true := beq_iff_eq.mpr c36
                      have c36b1 : (t228 != 0) = false := bne_eq_false_iff_eq.mpr c36
                      clear c36
                      replace H := Option.bind_eq_some_iff.mp H
                      obtain ⟨t232, A370, H⟩ := H
                      replace H : (if t232 = true then ((estreatlaw26_awake.f).bind fun t233 => (some t233)) else (some false)) = some r := H
                      have A37 := Aside0.mk A370
                      clear A370
                      by_cases c38 : t232 = true
                      · subst c38
                        have H1 : ((estreatlaw26_awake.f).bind fun t233 => (some t233)) = some r := by rw [if_pos rfl] at H; exact H
                        clear H
                        have H := H1
                        clear H1
                        replace H := Option.bind_eq_some_iff.mp H
                        obtain ⟨t233, A390, H⟩ := H
                        replace H : (some t233) = some r := H
                        have A39 := Aside0.mk A390
                        clear A390
                        obtain rfl := Option.some.inj H
                        obtain ⟨Ao40, co40, eo40⟩ := Kd.S_slice HO_11.out
                        subst eo40
                        obtain ⟨Ao41, co41, eo41⟩ := Kd.S_slice HO_13.out
                        subst eo41
                        go_wp2_with (first | (go_at_call 25; (with_reducible refine (estreatref04_SameAll.calls kj22 _ _ t223 _ _ t227 true _ ?side1 ?side2 ?side3 ?side4 A37.out).mono ?_); (case side1 => repeat (first | exact (Kd.S_reads' HO_11.out).2.2 | (with_reducible refine Kd.C_alloc ?_ _) | (with_reducible refine Kd.C_drewN ?_ _) | (with_reducible refine Kd.C_drew ?_))); (case side2 => exact (Kd.S_reads' HO_11.out).2.1); (case side3 => repeat (first | exact (Kd.S_reads' HO_13.out).2.2 | (with_reducible refine Kd.C_alloc ?_ _) | (with_reducible refine Kd.C_drewN ?_ _) | (with_reducible refine Kd.C_drew ?_))); (case side4 => exact (Kd.S_reads' HO_13.out).2.1); rintro e w' ⟨rfl, ⟨nd, rfl⟩⟩) | (go_at_call 9; (with_reducible refine (estreatlaw26_awake.calls  t233 _ ?side1 A39.out).mono ?_); (case side1 => exact ErrT.of_below HG.out (by repeat (first | (with_reducible first | exact HB.out | apply below_alloc | apply pw_below_drewN | apply below_drew1) | exact HB.out))); rintro e w42 ⟨rfl, hb⟩; have n0_ := Aside0.mk (Kd.S_below (by (with_reducible repeat (first | apply Kd.S_alloc | apply Kd.S_drewN | apply Kd.S_drew)); exact HO_11.out) hb); have n1_ := Aside0.mk (Kd.S_below (by (with_reducible repeat (first | apply Kd.S_alloc | apply Kd.S_drewN | apply Kd.S_drew)); exact HO_13.out) hb); have n2_ := Aside0.mk (below_step (by repeat (first | (with_reducible first | exact HB.out | apply below_alloc | apply pw_below_drewN | apply below_drew1) | exact HB.out)) hb); clear HO_11; clear HO_13; clear HB; have HO_11 := n0_; have HO_13 := n1_; have HB := n2_; clear n0_ n1_ n2_; (try clear hb); (try clear hb2); (try clear hk); (try clear hi)))
                        go_ret
                        exact ⟨by first | rfl | (simp [errW_none, errW_some] <;> rfl) | (simp [*, errW_none, errW_some] <;> rfl), by repeat (first | (with_reducible first | exact HB.out | apply below_alloc | apply pw_below_drewN | apply below_drew1) | exact HB.out)⟩
                      · replace c38 := Bool.eq_false_iff.mpr c38
                        subst c38
                        have H1 : (some false) = some r := by rw [if_neg (show ¬ (false = true) by decide)] at H; exact H
                        clear H
                        have H := H1
                        clear H1
                        obtain rfl := Option.some.inj H
                        obtain ⟨Ao43, co43, eo43⟩ := Kd.S_slice HO_11.out
                        subst eo43
                        obtain ⟨Ao44, co44, eo44⟩ := Kd.S_slice HO_13.out
                        subst eo44
                        go_wp2_with (first | (go_at_call 25; (with_reducible refine (estreatref04_SameAll.calls kj22 _ _ t223 _ _ t227 false _ ?side1 ?side2 ?side3 ?side4 A37.out).mono ?_); (case side1 => repeat (first | exact (Kd.S_reads' HO_11.out).2.2 | (with_reducible refine Kd.C_alloc ?_ _) | (with_reducible refine Kd.C_drewN ?_ _) | (with_reducible refine Kd.C_drew ?_))); (case side2 => exact (Kd.S_reads' HO_11.out).2.1); (case side3 => repeat (first | exact (Kd.S_reads' HO_13.out).2.2 | (with_reducible refine Kd.C_alloc ?_ _) | (with_reducible refine Kd.C_drewN ?_ _) | (with_reducible refine Kd.C_drew ?_))); (case side4 => exact (Kd.S_reads' HO_13.out).2.1); rintro e w' ⟨rfl, ⟨nd, rfl⟩⟩))
                        go_ret
                        exact ⟨by first | rfl | (simp [errW_none, errW_some] <;> rfl) | (simp [*, errW_none, errW_some] <;> rfl), by repeat (first | (with_reducible first | exact HB.out | apply below_alloc | apply pw_below_drewN | apply below_drew1) | exact HB.out)⟩
                    · rw [if_neg c36] at H
                      have c36b0 : (t228 == 0) = false := beq_eq_false_iff_ne.mpr c36
                      have c36b1 : (t228 != 0) = true := bne_iff_ne.mpr c36
                      obtain rfl := Option.some.inj H
                      go_wp2
                      go_ret
                      exact ⟨by first | rfl | (simp [errW_none, errW_some] <;> rfl) | (simp [*, errW_none, errW_some] <;> rfl), by repeat (first | (with_reducible first | exact HB.out | apply below_alloc | apply pw_below_drewN | apply below_drew1) | exact HB.out)⟩

end Go.Proofs.YtjmhiklmlgbifaaGreatDoor.PMan
end

/- Texts of this proof, put into one: ManG, ManH, ManI, ManJ, ManK, ManL, NamA, NamD, PureManifestNames. -/
import Derived.Test.YtjmhiklmlgbifaaGreatDoorCM2
import Derived.Outline
import Derived.Laws.CopyRow
import Derived.Laws.IdiomCopy
import Derived.Test.YtjmhiklmlgbifaaGreatDoorWApart
import Derived.Test.YtjmhiklmlgbifaaGreatDoorPManx15
import Derived.Test.YtjmhiklmlgbifaaGreatDoorPManx18
import Derived.Test.YtjmhiklmlgbifaaGreatDoorPManx20
import Derived.Shelf.Strconv.Itoa3
import Derived.Lib.AppendIntMem
import Derived.Lib.LaidTab
import Derived.Lib.ItoaLen
import Derived.Test.YtjmhiklmlgbifaaGreatDoorPManx0
import Derived.Test.YtjmhiklmlgbifaaGreatDoorPManx9
import Derived.Test.YtjmhiklmlgbifaaGreatDoorPManx10
import Derived.Lib.Strings
section
namespace Go.Proofs.YtjmhiklmlgbifaaGreatDoor.PMan
open Go.RowKit Go.Proofs.YtjmhiklmlgbifaaGreatDoorW.PrintWords Go.Proofs.YtjmhiklmlgbifaaGreatDoorW.PrintLast Go.Proofs.YtjmhiklmlgbifaaGreatDoorW.PrintMore
attribute [local go_sem] max2_int min2_int max_two min_two max_three min_three max_four min_four   -- for this text's walks alone
set_option linter.unusedVariables false
set_option linter.unusedSimpArgs false

theorem lt10 : num_Reader_Take.f leastL 10 0 0 32 = some (List.replicate 32 0, 42, 0, 0) := by decide +kernel
theorem lt43 : num_Reader_Take.f leastL 43 0 0 32 = some (List.replicate 32 0, 75, 0, 0) := by decide +kernel
theorem lv42 : num_short.f 3 (leastL.drop (42 : Int).toNat) = some (0, 1, 0) := by decide +kernel
theorem setCell_self (w : World) (b o : Nat) (v : Value) (c : Array Value) (t : TypeId) (fr : Nat × Nat) (hb : w.heap[b]? = some (.cells c t fr)) (hv : c[o]? = some v) : w.setCell ⟨b, o, none⟩ v = w := by
  have hlt : b < w.heap.size := (Array.getElem?_eq_some_iff.1 hb).1
  have he : w.heap[b] = .cells c t fr := (Array.getElem?_eq_some_iff.1 hb).2
  have hs : c.setIfInBounds o v = c := by
    apply Array.ext_getElem?
    intro i
    rw [Array.getElem?_setIfInBounds]
    split
    · rename_i h; subst h; simp only [(Array.getElem?_eq_some_iff.1 hv).1, if_true]; exact hv.symm
    · rfl
  unfold World.setCell
  cases w with
  | mk heap tape drawn os output =>
    congr 1
    apply Array.ext
    · simp
    · intro k h1 h2
      simp only [Array.getElem_modify]
      split
      · rename_i hk; subst hk; simp at he; simp [he, hs]
      · rfl
theorem setCells_self (w : World) (b : Nat) (c : Array Value) (t : TypeId) (fr : Nat × Nat) (hb : w.heap[b]? = some (.cells c t fr)) : ∀ (vs : List Value) (o : Nat), (∀ j v, vs[j]? = some v → c[o + j]? = some v) → w.setCells b o vs = w
  | [], _, _ => rfl
  | v :: r, o, h => by
    have h0 := h 0 v rfl
    rw [World.setCells, setCell_self w b o v c t fr hb (by simpa using h0)]
    exact setCells_self w b c t fr hb r (o + 1) (fun j u hj => by have := h (j + 1) u (by simpa using hj); rwa [show o + (j + 1) = o + 1 + j from by omega] at this)
theorem ents_at_lo (j : Nat) (hj : j < 32) : Tryz.zeroCells81[0 + j]? = some (.int .u8 0) := by
  rw [ents_is, List.getElem?_toArray, Nat.zero_add, List.getElem?_append_left (by simpa using hj), List.getElem?_map, List.getElem?_replicate, if_pos hj]
  rfl
theorem ents_at_hi (j : Nat) (hj : j < 32) : Tryz.zeroCells81[33 + j]? = some (.int .u8 0) := by
  rw [ents_is, List.getElem?_toArray, List.getElem?_append_right (by simp; omega), List.length_map, List.length_replicate, show 33 + j - 32 = j + 1 from by omega, List.getElem?_cons_succ, List.getElem?_map, List.getElem?_replicate, if_pos hj]
  rfl
theorem copy_noughts (w : World) (b o : Nat) (A : Option Addr) (c : Nat) (hr : Kd.C (Kd.int .u8) w A (List.replicate 32 (0 : Int)).length (List.replicate 32 0)) (hb : w.heap[b]? = some (.cells Tryz.zeroCells81 81 (0, 0))) (he : ∀ j, j < 32 → Tryz.zeroCells81[o + j]? = some (.int .u8 0)) :
    (Builtin.copy_ #[30, 30] 3 #[.slice (some ⟨b, o, none⟩) 32 32, .slice A 32 c]).run Tryz.prog w = .ok (goInt 32) w := by
  obtain ⟨ad, rfl, _⟩ := Kd.at_int hr 0 (by decide) (by decide)
  have hcell : ∀ j, j < 32 → w.cell? ⟨b, o + j, none⟩ = some (.int .u8 0) := fun j hj => (blk_cell hb (o + j)).trans (he j hj)
  have h := run_copy_cells (P := Tryz.prog) w 30 30 3 5 b o 32 32 ad 32 c (List.replicate 32 (.int .u8 0)) Tryz.underlying30 (by kernel_rfl) (by decide) (fun j v hj => by
      have hj2 : j < 32 := by have := (List.getElem?_eq_some_iff.1 hj).1; simpa using this
      have hv : v = .int .u8 0 := by
        have := (List.getElem?_eq_some_iff.1 hj).2
        rw [List.getElem_replicate] at this
        exact this.symm
      obtain ⟨ad', e, hk⟩ := Kd.at_int hr (j : Int) (by omega) (by rw [List.length_replicate]; omega)
      obtain rfl := Option.some.inj e
      have hz : rd (List.replicate 32 (0 : Int)) (j : Int) = 0 := by unfold rd; rw [Int.toNat_natCast, List.getD_eq_getElem?_getD, List.getElem?_replicate, if_pos hj2]; rfl
      rw [hz, Int.toNat_natCast] at hk
      subst hv
      exact hk) (fun j hj => by rw [hcell j (by simpa using hj)]; rfl) (fun j hj => blk_frozen hb _) (fun v hv => by rw [List.eq_of_mem_replicate hv]; rfl)
  rw [setCells_self w b Tryz.zeroCells81 _ _ hb _ o (fun j v hj => by
    have hj2 : j < 32 := by have := (List.getElem?_eq_some_iff.1 hj).1; simpa using this
    have := (List.getElem?_eq_some_iff.1 hj).2
    rw [List.getElem_replicate] at this
    rw [he j hj2, this])] at h
  exact h
set_option maxHeartbeats 4000000 in
set_option maxRecDepth 100000 in
theorem rd_ledTake (g : Nat) (w0 w : World) (hG : ErrT w0) (hI : RD w0 w g leastL 10 0 0) (hB : Below w0.heap.size w0 w) :
    Calls Tryz.prog 95 #[.pointer (some ⟨g, 0, none⟩)] w fun e w' => e = .returned (.agg Tryz.zeroCells81) ∧ RD w0 w' g leastL 75 0 0 ∧ Below w0.heap.size w0 w' ∧ KeepBut w w' g none := by
  have HG := Aside0.mk hG
  have HI := Aside0.mk hI
  have HB := Aside0.mk hB
  have HGW := Aside0.mk hI.lt
  clear hG hI hB
  go_enter Tryz.func95, Tryz.ntmps95
  go_wp2_with fail
  have hal : Below w.heap.size w (w.alloc (.cells Tryz.zeroCells81 81)).drew := below_drew (below_alloc (Below.refl _ _) _)
  have HE1 := Aside0.mk (show (w.alloc (.cells Tryz.zeroCells81 81)).drew.heap[w.heap.size]? = some (.cells Tryz.zeroCells81 81 (0, 0)) from heap_alloc_new w _)
  have HI1 := Aside0.mk (HI.out.below hal)
  have HB1 := Aside0.mk (below_then HB.out HB.out.size hal)
  have HKP2 := Aside0.mk (KeepBut.of_below hal g none)
  clear hal
  refine start_ (n := 5) (S := fun w' => True) (ds := []) #[false, false, false, false, false] (by kernel_rfl) rfl rfl trivial (fun hHeld => ?_)
  generalize (w.alloc (.cells Tryz.zeroCells81 81)).drew = W1 at *
  refine pure_ (i := 0) (N := some 6) (v := ?_) (a' := ?_) #[true, false, false, false, false] rfl rfl (by kernel_rfl) (fun _ _ _ h => h) (Or.inl ⟨by rfl, ?_⟩) ?_ ?_
  rotate_left
  · intro w'
    go_simp
    with_reducible rfl
  rotate_left
  · simp only [Act.put, List.setIfInBounds_toArray, List.set_cons_zero, List.set_cons_succ, i64_w, i32_w]
    rfl
  refine pure_ (i := 1) (N := some 7) (v := ?_) (a' := ?_) #[true, true, false, false, false] rfl rfl (by kernel_rfl) (fun _ _ _ h => h) (Or.inl ⟨by rfl, ?_⟩) ?_ ?_
  rotate_left
  · intro w'
    go_simp
    with_reducible rfl
  rotate_left
  · simp only [Act.put, List.setIfInBounds_toArray, List.set_cons_zero, List.set_cons_succ, i64_w, i32_w]
    rfl
  refine pure_ (i := 2) (N := some 8) (v := ?_) (a' := ?_) #[true, true, true, false, false] rfl rfl (by kernel_rfl) (fun _ _ _ h => h) (Or.inl ⟨by rfl, ?_⟩) ?_ ?_
  rotate_left
  · intro w'
    go_simp
    with_reducible rfl
  rotate_left
  · simp only [Act.put, List.setIfInBounds_toArray, List.set_cons_zero, List.set_cons_succ, i64_w, i32_w]
    rfl
  refine one_ (i := 3) (N := some 9) #[true, true, true, true, false] rfl rfl (by kernel_rfl) (by decide) (fun K hK => ?_)
  refine goes_ Tryz.func127 (by kernel_rfl) rfl #[.pointer (some ⟨g, 0, none⟩), .int .i64 32] (by rfl) rfl rfl (by simp only [List.map_toArray, List.map_cons, List.map_nil]; rfl) ?_
  with_reducible refine (num_Reader_Take.calls g leastL 10 0 0 32 (List.replicate 32 0) 42 0 0 w0 W1 HI1.out HB1.out lt10).mono ?_
  rintro e w2 ⟨v2, rfl, hr, h1, h2, h3⟩
  refine ⟨_, rfl, ?_⟩
  obtain ⟨A2, c2, rfl⟩ := Kd.R_slice hr
  have hrd := (Kd.R_reads' hr).2.2
  have HI2 := Aside0.mk h1
  have HB2 := Aside0.mk h2
  have hbe := (h3.2 w.heap.size (blk_lt HE1.out) (Ne.symm (Nat.ne_of_lt HGW.out)) (by simp)).trans HE1.out
  have HE2 := Aside0.mk hbe
  have HK2 := Aside0.mk (keep_then HKP2.out h3)
  have hcp := copy_noughts w2 w.heap.size 0 A2 c2 hrd hbe (by intro j hj; exact ents_at_lo j hj)
  clear hr h1 h2 h3 hbe hrd
  refine hK.out _ _ trivial (fun hHeld => ?_)
  clear hK K
  refine norm_ (a' := ?_) ?_ ?_
  rotate_left
  · show Act.put _ (some 9) _ = _
    simp only [Act.put, List.setIfInBounds_toArray, List.set_cons_zero, List.set_cons_succ, i64_w, i32_w]
    rfl
  refine one_ (i := 4) (N := some 10) #[true, true, true, true, true] rfl rfl (by kernel_rfl) (by decide) (fun K hK => ?_)
  refine value_ (w1 := ?_) (v := ?_) (by rfl) rfl ?_ ?_
  rotate_left 2
  · go_simp
    constructor
    · rfl
    · rfl
  refine hK.out _ _ trivial (fun hHeld => ?_)
  clear hK K
  refine norm_ (a' := ?_) ?_ ?_
  rotate_left
  · show Act.put _ (some 10) _ = _
    simp only [Act.put, List.setIfInBounds_toArray, List.set_cons_zero, List.set_cons_succ, i64_w, i32_w]
    rfl
  refine done_ (by kernel_rfl) ?_
  go_wp2_with fail
  refine (rd_var 3 g leastL 42 0 1 w0 w2 HI2.out HB2.out (by decide) (by decide) (by decide +kernel) lv42).mono ?_
  rintro e w3 ⟨rfl, h1, h2, h3⟩
  have HI4 := Aside0.mk (show RD w0 w3.drew g leastL 43 0 0 from RD.drew h1)
  have HB4 := Aside0.mk (below_drew h2)
  have HE4 := Aside0.mk (show w3.drew.heap[w.heap.size]? = some (.cells Tryz.zeroCells81 81 (0, 0)) from (h3.2 w.heap.size (blk_lt HE2.out) (Ne.symm (Nat.ne_of_lt HGW.out)) (by simp)).trans HE2.out)
  have HKP5 := Aside0.mk (show KeepBut w w3.drew g none from keep_then HK2.out h3)
  clear h1 h2 h3
  go_wp2_with fail
  refine start_ (n := 5) (S := fun w' => True) (ds := []) #[false, false, false, false, false] (by kernel_rfl) rfl rfl trivial (fun hHeld => ?_)
  generalize w3.drew = W4 at *
  refine pure_ (i := 0) (N := some 13) (v := ?_) (a' := ?_) #[true, false, false, false, false] rfl rfl (by kernel_rfl) (fun _ _ _ h => h) (Or.inl ⟨by rfl, ?_⟩) ?_ ?_
  rotate_left
  · intro w'
    go_simp
    with_reducible rfl
  rotate_left
  · simp only [Act.put, List.setIfInBounds_toArray, List.set_cons_zero, List.set_cons_succ, i64_w, i32_w]
    rfl
  refine pure_ (i := 1) (N := some 14) (v := ?_) (a' := ?_) #[true, true, false, false, false] rfl rfl (by kernel_rfl) (fun _ _ _ h => h) (Or.inl ⟨by rfl, ?_⟩) ?_ ?_
  rotate_left
  · intro w'
    go_simp
    with_reducible rfl
  rotate_left
  · simp only [Act.put, List.setIfInBounds_toArray, List.set_cons_zero, List.set_cons_succ, i64_w, i32_w]
    rfl
  refine pure_ (i := 2) (N := some 15) (v := ?_) (a' := ?_) #[true, true, true, false, false] rfl rfl (by kernel_rfl) (fun _ _ _ h => h) (Or.inl ⟨by rfl, ?_⟩) ?_ ?_
  rotate_left
  · intro w'
    go_simp
    with_reducible rfl
  rotate_left
  · simp only [Act.put, List.setIfInBounds_toArray, List.set_cons_zero, List.set_cons_succ, i64_w, i32_w]
    rfl
  refine one_ (i := 3) (N := some 16) #[true, true, true, true, false] rfl rfl (by kernel_rfl) (by decide) (fun K hK => ?_)
  refine goes_ Tryz.func127 (by kernel_rfl) rfl #[.pointer (some ⟨g, 0, none⟩), .int .i64 32] (by rfl) rfl rfl (by simp only [List.map_toArray, List.map_cons, List.map_nil]; rfl) ?_
  with_reducible refine (num_Reader_Take.calls g leastL 43 0 0 32 (List.replicate 32 0) 75 0 0 w0 W4 HI4.out HB4.out lt43).mono ?_
  rintro e w5 ⟨v5, rfl, hr, h1, h2, h3⟩
  refine ⟨_, rfl, ?_⟩
  obtain ⟨A5, c5, rfl⟩ := Kd.R_slice hr
  have hrd := (Kd.R_reads' hr).2.2
  have HI5 := Aside0.mk h1
  have HB5 := Aside0.mk h2
  have hbe := (h3.2 w.heap.size (blk_lt HE4.out) (Ne.symm (Nat.ne_of_lt HGW.out)) (by simp)).trans HE4.out
  have HE5 := Aside0.mk hbe
  have HK5 := Aside0.mk (keep_then HKP5.out h3)
  have hcp := copy_noughts w5 w.heap.size 33 A5 c5 hrd hbe (by intro j hj; exact ents_at_hi j hj)
  clear hr h1 h2 h3 hbe hrd
  refine hK.out _ _ trivial (fun hHeld => ?_)
  clear hK K
  refine norm_ (a' := ?_) ?_ ?_
  rotate_left
  · show Act.put _ (some 16) _ = _
    simp only [Act.put, List.setIfInBounds_toArray, List.set_cons_zero, List.set_cons_succ, i64_w, i32_w]
    rfl
  refine one_ (i := 4) (N := some 17) #[true, true, true, true, true] rfl rfl (by kernel_rfl) (by decide) (fun K hK => ?_)
  refine value_ (w1 := ?_) (v := ?_) (by rfl) rfl ?_ ?_
  rotate_left 2
  · go_simp
    constructor
    · rfl
    · rfl
  refine hK.out _ _ trivial (fun hHeld => ?_)
  clear hK K
  refine norm_ (a' := ?_) ?_ ?_
  rotate_left
  · show Act.put _ (some 17) _ = _
    simp only [Act.put, List.setIfInBounds_toArray, List.set_cons_zero, List.set_cons_succ, i64_w, i32_w]
    rfl
  refine done_ (by kernel_rfl) ?_
  go_wp2_with fail
  refine (rd_err g leastL 75 0 0 w0 w5 (HG.out.of_below HB5.out) HI5.out).mono ?_
  rintro e w6 ⟨rfl, h1⟩
  have HI6 := Aside0.mk (HI5.out.below h1)
  have HB6 := Aside0.mk (below_then HB5.out HB5.out.size h1)
  have HK6 := Aside0.mk (KeepBut.below_ HK5.out h1)
  have hb6 := (h1.block _ (blk_lt HE5.out)).trans HE5.out
  have hq := (blk_cell hb6 32).trans ents32
  have hf := blk_frozen hb6 32
  have hw1 := setCell_self w6 w.heap.size 32 (.int .i64 0) Tryz.zeroCells81 _ _ hb6 ents32
  have hw2 := setRow_self w6 w.heap.size Tryz.zeroCells81 _ _ hb6
  have HW1 := Aside0.mk hw1
  have HW2 := Aside0.mk hw2
  have HX := Aside0.mk (show (w6.setCell ⟨w.heap.size, 32, none⟩ (.int .i64 0)).heap[w.heap.size]? = some (.cells Tryz.zeroCells81 81 (0, 0)) from by rw [hw1]; exact hb6)
  have HE6 := Aside0.mk hb6
  have hone : Tryz.zeroCells81.all (·.oneCell') = true := by kernel_rfl
  clear h1 hb6 hw1 hw2
  go_wp2_with (first | (refine wpList_load_row rfl 81 (.tmp 2) rfl w.heap.size rfl 81 Tryz.zeroCells81 (0, 0) _ HX.out Tryz.underlying81 rfl (by rw [ents_size]; kernel_rfl) ?_) | (refine wpList_store_row rfl 81 (.tmp 2) (.tmp 33) rfl w.heap.size Tryz.zeroCells81 rfl rfl 81 Tryz.zeroCells81 HX.out (by rw [ents_size]; kernel_rfl) rfl hone ?_))
  rw [HW1.out, HW2.out]
  refine bodyPost_ret (v := .agg Tryz.zeroCells81) (results_cell_row rfl _ _ w.heap.size 81 Tryz.zeroCells81 (0, 0) _ rfl HE6.out Tryz.underlying81 rfl (by rw [ents_size]; kernel_rfl)) rfl ?_
  exact ⟨rfl, HI6.out, HB6.out, HK6.out⟩

end Go.Proofs.YtjmhiklmlgbifaaGreatDoor.PMan
end
section
namespace Go.Proofs.YtjmhiklmlgbifaaGreatDoor.PMan
open Go.RowKit Go.Proofs.YtjmhiklmlgbifaaGreatDoorW.PrintWords Go.Proofs.YtjmhiklmlgbifaaGreatDoorW.PrintLast Go.Proofs.YtjmhiklmlgbifaaGreatDoorW.PrintMore
attribute [local go_sem] max2_int min2_int max_two min_two max_three min_three max_four min_four   -- for this text's walks alone
set_option linter.unusedVariables false
set_option linter.unusedSimpArgs false

/-- What lies before block g. -/
def truncW (W : World) (g : Nat) : World := { W with heap := W.heap.extract 0 g }
theorem truncW_size (W : World) (g : Nat) (h : g ≤ W.heap.size) : (truncW W g).heap.size = g := by
  show (W.heap.extract 0 g).size = g
  rw [Array.size_extract]
  omega
theorem truncW_at (W : World) (g k : Nat) (h : g ≤ W.heap.size) (hk : k < g) : (truncW W g).heap[k]? = W.heap[k]? := by
  show (W.heap.extract 0 g)[k]? = W.heap[k]?
  rw [Array.getElem?_extract, if_pos (by omega), Nat.zero_add]
/-- Numbers that are read at addresses of which no block turned. -/
theorem C_move_int {w0 W : World} {A : Option Addr} {n : Nat} {l : List Int} (h : Kd.C (Kd.int .u8) w0 A n l) (hm : ∀ ad : Addr, A = some ad → 0 < n → W.heap[ad.block]? = w0.heap[ad.block]?) : Kd.C (Kd.int .u8) W A n l := by
  refine ⟨h.1, h.2.1, fun hn => ?_⟩
  obtain ⟨ad, e, hc⟩ := h.2.2 hn
  refine ⟨ad, e, fun j p hj => ?_⟩
  obtain ⟨c, h1, h2, h3⟩ := hc j p hj
  refine ⟨c, h1, h2, fun i u hu => ?_⟩
  refine (World.cell?_of_block (w := w0) ?_).trans (h3 i u hu)
  rw [add_block]
  exact hm ad e hn
/-- A reader without an error; block mb may be written beside it. -/
def RDB (mb : Nat) (W : World) (g : Nat) (l : List Int) (a : Int) : Prop := ∃ w0, RD w0 W g l a 0 0 ∧ Below w0.heap.size w0 W ∧ ErrT w0 ∧ mb < w0.heap.size ∧ 0 ≠ mb
theorem RDB.below {mb : Nat} {W W1 : World} {g : Nat} {l : List Int} {a : Int} (h : RDB mb W g l a) (hb : Below W.heap.size W W1) : RDB mb W1 g l a := by
  obtain ⟨w0, h1, h2, h3, h4, h5⟩ := h
  exact ⟨w0, h1.below hb, below_then h2 h2.size hb, h3, h4, h5⟩
theorem RDB.errT {mb : Nat} {W : World} {g : Nat} {l : List Int} {a : Int} (h : RDB mb W g l a) : ErrT W := by
  obtain ⟨w0, h1, h2, h3, h4, h5⟩ := h
  exact h3.of_below h2
theorem RDB.lt {mb : Nat} {W : World} {g : Nat} {l : List Int} {a : Int} (h : RDB mb W g l a) : mb < g ∧ g < W.heap.size := by
  obtain ⟨w0, h1, h2, h3, h4, h5⟩ := h
  obtain ⟨A, c, ev, k1, k2, k3, k4, k5⟩ := h1
  exact ⟨by omega, blk_lt k1⟩
theorem RDB.store {mb : Nat} {W W1 : World} {g : Nat} {l : List Int} {a : Int} {cs : Array Value} {t : TypeId} (h : RDB mb W g l a) (hl : 0 < l.length) (hm : W.heap[mb]? = some (.cells cs t (0, 0))) (hcs : ∀ (i : Nat) (x : Int), cs[i]? ≠ some (Value.int .u8 x)) (hW : KeepBut W W1 mb none) : RDB mb W1 g l a := by
  obtain ⟨w0, hr, hb, hG, hmb, he⟩ := h
  have hglt := hr.lt
  obtain ⟨A, c, ev, k1, k2, k3, k4, k5⟩ := hr
  have hgm : g ≠ mb := by omega
  have hW1g := hW.2 g hglt hgm (by simp)
  have hgl1 : g ≤ W1.heap.size := by have := hW.1; omega
  have hET := hG.lt
  refine ⟨truncW W1 g, ⟨A, c, ev, hW1g.trans k1, Nat.le_of_eq (truncW_size W1 g hgl1), ?_, k4, ?_⟩, ⟨rfl, rfl, rfl, ?_, ?_⟩, ?_, ?_, he⟩
  · refine C_move_int k3 (fun ad hA hn => ?_)
    obtain ⟨ad', hA', hcell⟩ := Kd.at_int k3 0 (by decide) (by omega)
    have hadd : ad' = ad := by rw [hA] at hA'; exact (Option.some.inj hA').symm
    subst hadd
    have hlt : ad'.block < w0.heap.size := by
      have := World.block_lt_of_cell? _ _ hcell
      rwa [add_block] at this
    have hW0 : W.heap[ad'.block]? = w0.heap[ad'.block]? := hb.block _ hlt
    have hne : ad'.block ≠ mb := fun e => by
      have hcW : W.cell? (ad'.add (Int.toNat 0)) = some (.int .u8 (rd l 0)) := (World.cell?_of_block (w := w0) (by rw [add_block]; exact hW0)).trans hcell
      unfold World.cell? at hcW
      rw [add_block, e, hm] at hcW
      dsimp only at hcW
      split at hcW
      · cases hcW
      · exact hcs _ _ hcW
    exact (truncW_at W1 g _ hgl1 (by omega)).trans ((hW.2 _ (by have := hb.size; omega) hne (by simp)).trans hW0)
  · rcases k5 with ⟨_, _, hev⟩ | ⟨hne, _⟩
    · exact .inl ⟨rfl, rfl, hev⟩
    · exact absurd rfl hne
  · rw [truncW_size W1 g hgl1]; exact hgl1
  · intro k hk
    rw [truncW_size W1 g hgl1] at hk
    exact (truncW_at W1 g k hgl1 hk).symm
  · exact (World.cell?_of_block (w := w0) ((truncW_at W1 g _ hgl1 (by show 0 < g; omega)).trans ((hW.2 _ (by have := hb.size; show 0 < _; omega) he (by simp)).trans (hb.block _ hET)))).trans hG
  · rw [truncW_size W1 g hgl1]; omega
theorem base_call {w w0 W W1 : World} {n g : Nat} (hb : Below w.heap.size w W) (h0 : Below n w0 W) (h1 : Below n w0 W1) (hk : KeepBut W W1 g none) (hg : w.heap.size ≤ g) : Below w.heap.size w W1 :=
  ⟨h1.os.trans (h0.os.symm.trans hb.os), h1.tape.trans (h0.tape.symm.trans hb.tape), h1.output.trans (h0.output.symm.trans hb.output), Nat.le_trans hb.size hk.1,
    fun k hk2 => (hk.2 k (Nat.lt_of_lt_of_le hk2 hb.size) (by omega) (by simp)).trans (hb.block k hk2)⟩
theorem keep_blk {W W1 : World} {g b : Nat} {o : Obj} (hk : KeepBut W W1 g none) (hb : W.heap[b]? = some o) (hne : b ≠ g) : W1.heap[b]? = some o := (hk.2 b (blk_lt hb) hne (by simp)).trans hb

-- The readers' calls as manifest.read makes them: what they leave alone.
def RCall (W W1 : World) (g : Nat) : Prop := KeepBut W W1 g none ∧ ∀ w : World, Below w.heap.size w W → w.heap.size ≤ g → Below w.heap.size w W1
theorem RCall.of_below {W W1 : World} {g : Nat} (h : Below W.heap.size W W1) : RCall W W1 g := ⟨KeepBut.of_below h g none, fun _ hb _ => below_then hb hb.size h⟩
theorem RCall.of {w0 W W1 : World} {g : Nat} (h0 : Below w0.heap.size w0 W) (h1 : Below w0.heap.size w0 W1) (hk : KeepBut W W1 g none) : RCall W W1 g := ⟨hk, fun _ hb hg => base_call hb h0 h1 hk hg⟩
theorem mr_number (mb g : Nat) (a v n a' : Int) (W : World) (ha : a + n = a') (H : RDB mb W g leastL a) (h0 : 0 ≤ a) (h1 : a ≤ leastL.length) (hn : wrap64 (a + n) = a + n) (hf : num_short.f 3 (leastL.drop a.toNat) = some (v, n, 0)) (hv : 0 ≤ v) (hv2 : v ≤ 1099511627776) :
    Calls Tryz.prog 90 #[.pointer (some ⟨g, 0, none⟩)] W fun e w' => e = .returned (.int .i64 v) ∧ RDB mb w' g leastL a' ∧ RCall W w' g := by
  subst ha
  obtain ⟨w0, hI, hB, hG, hm, he⟩ := H
  refine (rd_number 3 g leastL a v n w0 W hI hB h0 h1 hn hf hv hv2).mono ?_
  rintro e w' ⟨rfl, k1, k2, k3⟩
  exact ⟨rfl, ⟨w0, k1, k2, hG, hm, he⟩, RCall.of hB k2 k3⟩
theorem mr_schema (mb g : Nat) (W : World) (H : RDB mb W g leastL 3) :
    Calls Tryz.prog 91 #[.pointer (some ⟨g, 0, none⟩)] W fun e w' => ∃ s c, e = .returned (.slice (some ⟨s, 0, none⟩) 1 c) ∧ 1 ≤ c ∧ Kd.C k123 w' (some ⟨s, 0, none⟩) 1 [⟨1, false, -1⟩] ∧ W.heap.size ≤ s ∧ s < w'.heap.size ∧ RDB mb w' g leastL 7 ∧ RCall W w' g := by
  obtain ⟨w0, hI, hB, hG, hm, he⟩ := H
  refine (rd_takeSchema g w0 W hG hI hB).mono ?_
  rintro e w' ⟨s, c, rfl, k1, k2, k3, k4, k5, k6, k7⟩
  exact ⟨s, c, rfl, k1, k2, k3, k4, ⟨w0, k5, k6, hG, hm, he⟩, RCall.of hB k6 k7⟩
theorem mr_rows (mb s c g : Nat) (W : World) (H : RDB mb W g leastL 8) :
    Calls Tryz.prog 94 #[.pointer (some ⟨g, 0, none⟩), .slice (some ⟨s, 0, none⟩) 1 c] W fun e w' => e = .returned (.slice none 0 0) ∧ RDB mb w' g leastL 9 ∧ RCall W w' g := by
  obtain ⟨w0, hI, hB, hG, hm, he⟩ := H
  refine (rd_takeRows s c g w0 W hG hI hB).mono ?_
  rintro e w' ⟨rfl, k5, k6, k7⟩
  exact ⟨rfl, ⟨w0, k5, k6, hG, hm, he⟩, RCall.of hB k6 k7⟩
theorem mr_entry (mb g : Nat) (W : World) (H : RDB mb W g leastL 10) :
    Calls Tryz.prog 95 #[.pointer (some ⟨g, 0, none⟩)] W fun e w' => e = .returned (.agg Tryz.zeroCells81) ∧ RDB mb w' g leastL 75 ∧ RCall W w' g := by
  obtain ⟨w0, hI, hB, hG, hm, he⟩ := H
  refine (rd_ledTake g w0 W hG hI hB).mono ?_
  rintro e w' ⟨rfl, k5, k6, k7⟩
  exact ⟨rfl, ⟨w0, k5, k6, hG, hm, he⟩, RCall.of hB k6 k7⟩
theorem mr_err (mb g : Nat) (a : Int) (W : World) (H : RDB mb W g leastL a) :
    Calls Tryz.prog 89 #[.pointer (some ⟨g, 0, none⟩)] W fun e w' => e = .returned (.tuple #[.int .i64 0, .int .i64 0]) ∧ Below W.heap.size W w' := by
  have hG := H.errT
  obtain ⟨w0, hI, hB, _, hm, he⟩ := H
  exact rd_err g leastL a 0 0 w0 W hG hI
theorem mr_end (mb g : Nat) (W : World) (H : RDB mb W g leastL 75) :
    Calls Tryz.prog 96 #[.pointer (some ⟨g, 0, none⟩)] W fun e w' => e = .returned (.tuple #[.int .i64 0, .int .i64 0]) ∧ Below W.heap.size W w' := by
  have hG := H.errT
  obtain ⟨w0, hI, hB, _, hm, he⟩ := H
  exact rd_end g leastL 75 w0 W hG hI (by decide +kernel)
abbrev MCells (a b : Int) (S : Value) (m : Int) (E : Value) : Array Value := #[.int .i64 a, .int .i64 b, S, .int .i64 m, .slice none 0 0, .slice none 0 0, E]
theorem mc_no (a b m : Int) (A B : Option Addr) (n c n' c' : Nat) : ∀ (i : Nat) (x : Int), (MCells a b (.slice A n c) m (.slice B n' c'))[i]? ≠ some (Value.int .u8 x) := by
  intro i x h
  rcases i with _ | _ | _ | _ | _ | _ | _ | i <;> simp [MCells] at h
theorem C_move_col {W W1 : World} {s : Nat} {n : Nat} {l : List S123} (h : Kd.C k123 W (some ⟨s, 0, none⟩) n l) (hm : W1.heap[s]? = W.heap[s]?) : Kd.C k123 W1 (some ⟨s, 0, none⟩) n l := by
  refine ⟨h.1, h.2.1, fun hn => ?_⟩
  obtain ⟨ad, e, hc⟩ := h.2.2 hn
  obtain rfl := Option.some.inj e
  refine ⟨_, rfl, fun j p hj => ?_⟩
  obtain ⟨c, h1, h2, h3⟩ := hc j p hj
  refine ⟨c, h1, h2, fun i u hu => ?_⟩
  refine (World.cell?_of_block (w := W) ?_).trans (h3 i u hu)
  rw [add_block]
  exact hm
theorem EntC.move {W W1 : World} {e : Nat} (h : EntC W e) (hm : W1.heap[e]? = W.heap[e]?) : EntC W1 e := fun i x hx => (World.cell?_of_block (w := W) hm).trans (h i x hx)
theorem EntC.of_raw {W : World} {e : Nat} (h : Kd.C (Kd.raw 65) W (some ⟨e, 0, none⟩) 1 [Tryz.zeroCells81.toList]) : EntC W e := fun i x hx => by
  obtain ⟨ad, he, hc⟩ := h.2.2 (by decide)
  obtain rfl := Option.some.inj he
  obtain ⟨c, h1, ⟨h2, _⟩, h3⟩ := hc 0 Tryz.zeroCells81.toList rfl
  subst h2
  have := h3 i x hx
  have hadd : (⟨e, 0, none⟩ : Addr).add (0 * (Kd.raw 65).sz + i) = ⟨e, 0 + i, none⟩ := by
    show (⟨e, 0, none⟩ : Addr).add (0 * 65 + i) = _
    rw [show 0 * 65 + i = i from by omega]
    exact (Addr.add_mid e 0 i).trans (by rw [Nat.zero_add])
  rwa [hadd] at this
theorem results_cr_tmp {P : Program} {fn : Func} {p u : Tmp} {ty : TypeId} (h : fn.results = #[.cell p ty, .tmp u]) (tmps : Array Value) (w : World) (g : Nat) (t : TypeId) (cs : Array Value) (fr : Nat × Nat) (d : TypeDesc)
    (hp : tmps.getD p undef = .pointer (some ⟨g, 0, none⟩)) (hg : w.heap[g]? = some (.cells cs t fr))
    (hu : P.underlying ty = some d) (hd : (match d with | .struct _ | .array _ _ => true | _ => false) = true) (hi : (P.info? ty).map (·.size) = some cs.size) :
    (results fn tmps).run P w = .ok (.tuple #[.agg cs, tmps.getD u undef]) w := by
  have hp' : tmps[p]?.getD undef = .pointer (some ⟨g, 0, none⟩) := by simpa using hp
  simp [results, h, hp', asAddr, run_loadVar_row w g t ty cs fr d hg hu hd hi]
set_option maxHeartbeats 1600000 in
set_option maxRecDepth 100000 in
theorem m_goodf (mb rb g : Nat) (a : Int) (W : World) (H : RDB mb W g leastL a) (hp : W.heap[rb]? = some (.cells #[.pointer (some ⟨g, 0, none⟩)] 146 (0, 0))) :
    Calls Tryz.prog 88 #[.pointer (some ⟨rb, 0, none⟩)] W fun e w' => e = .returned (.bool true) ∧ Below W.heap.size W w' := by
  have HH := Aside0.mk H
  have hrb : W.cell? ⟨rb, 0, none⟩ = some (.pointer (some ⟨g, 0, none⟩)) := blk_cell hp 0
  clear H hp
  go_enter Tryz.func88, Tryz.ntmps88
  go_wp2_with fail
  refine (mr_err mb g a W HH.out).mono ?_
  rintro e w' ⟨rfl, hb⟩
  have HB := Aside0.mk hb
  clear hb
  go_wp2
  go_ret
  exact ⟨rfl, HB.out⟩

end Go.Proofs.YtjmhiklmlgbifaaGreatDoor.PMan
end
section
namespace Go.Proofs.YtjmhiklmlgbifaaGreatDoor.PMan
open Go.RowKit Go.Proofs.YtjmhiklmlgbifaaGreatDoorW.PrintWords Go.Proofs.YtjmhiklmlgbifaaGreatDoorW.PrintLast Go.Proofs.YtjmhiklmlgbifaaGreatDoorW.PrintMore
attribute [local go_sem] max2_int min2_int max_two min_two max_three min_three max_four min_four   -- for this text's walks alone
set_option linter.unusedVariables false
set_option linter.unusedSimpArgs false

theorem lz0 : num_short.f 3 (leastL.drop (0 : Int).toNat) = some (0, 1, 0) := by decide +kernel
theorem lz1 : num_short.f 3 (leastL.drop (1 : Int).toNat) = some (0, 1, 0) := by decide +kernel
theorem lz2 : num_short.f 3 (leastL.drop (2 : Int).toNat) = some (1, 1, 0) := by decide +kernel
theorem lz7 : num_short.f 3 (leastL.drop (7 : Int).toNat) = some (0, 1, 0) := by decide +kernel
theorem lz9 : num_short.f 3 (leastL.drop (9 : Int).toNat) = some (1, 1, 0) := by decide +kernel
set_option maxHeartbeats 8000000 in
set_option maxRecDepth 100000 in
theorem m_read (A0 : Option Addr) (c0 : Nat) (w : World) (hr0 : Kd.C (Kd.int .u8) w A0 leastL.length leastL) (hc0 : leastL.length ≤ c0) (hG : ErrT w) :
    Calls Tryz.prog 54 #[.slice A0 leastL.length c0] w fun ev w' => ∃ s cs e ce, ev = .returned (.tuple #[ManV s cs e ce, .nilIface]) ∧ ManP w' s cs e ce ∧ w.heap.size ≤ s ∧ w.heap.size ≤ e ∧ Below w.heap.size w w' := by
  have HR0 := Aside0.mk hr0
  have HC0 := Aside0.mk hc0
  have HG := Aside0.mk hG
  clear hr0 hc0 hG
  go_enter Tryz.func54, Tryz.ntmps54
  go_wp2_with fail
  have hm0 : (w.alloc (.cells (MCells 0 0 (.slice none 0 0) 0 (.slice none 0 0)) 27)).heap[w.heap.size]? = some (.cells (MCells 0 0 (.slice none 0 0) 0 (.slice none 0 0)) 27 (0, 0)) := heap_alloc_new w _
  have hb0 : Below w.heap.size w (w.alloc (.cells (MCells 0 0 (.slice none 0 0) 0 (.slice none 0 0)) 27)) := below_alloc (Below.refl _ _) _
  have HM0 := Aside0.mk hm0
  have HB0 := Aside0.mk hb0
  have HR1 := Aside0.mk (Kd.C_below HR0.out hb0)
  clear hm0 hb0
  generalize w.alloc (.cells (MCells 0 0 (.slice none 0 0) 0 (.slice none 0 0)) 27) = W0 at *
  refine (rd_new A0 c0 leastL W0 HR1.out HC0.out (by decide)).mono ?_
  rintro e W1 ⟨g, w1, rfl, hrd, h1, h2⟩
  have hal : Below W1.heap.size W1 (W1.alloc (.cells #[.pointer (some ⟨g, 0, none⟩)] 146)).drew := below_drew (below_alloc (Below.refl _ _) _)
  have hW1 : Below W0.heap.size W0 W1 := h1.trans (h2.mono h1.size)
  have hmlt : w.heap.size < W0.heap.size := blk_lt HM0.out
  have hglt := hrd.lt
  have hgge : w1.heap.size ≤ g := by obtain ⟨A, c, ev, k1, k2, k3, k4, k5⟩ := hrd; exact k2
  have HRa := Aside0.mk (RDB.below (show RDB w.heap.size W1 g leastL 0 from ⟨w1, hrd, h2, HG.out.of_below (HB0.out.trans (h1.mono HB0.out.size)), Nat.lt_of_lt_of_le hmlt h1.size, by have := HG.out.lt; omega⟩) hal)
  have HMa := Aside0.mk (show (W1.alloc (.cells #[.pointer (some ⟨g, 0, none⟩)] 146)).drew.heap[w.heap.size]? = _ from (hal.block _ (Nat.lt_of_lt_of_le hmlt hW1.size)).trans ((hW1.block _ hmlt).trans (HM0.out)))
  have HPa := Aside0.mk (show (W1.alloc (.cells #[.pointer (some ⟨g, 0, none⟩)] 146)).drew.heap[W1.heap.size]? = some (.cells #[.pointer (some ⟨g, 0, none⟩)] 146 (0, 0)) from heap_alloc_new W1 _)
  have HBa := Aside0.mk (show Below w.heap.size w (W1.alloc (.cells #[.pointer (some ⟨g, 0, none⟩)] 146)).drew from (HB0.out.trans (hW1.mono HB0.out.size)).trans (hal.mono (Nat.le_trans HB0.out.size hW1.size)))
  have HRG := Aside0.mk (show W1.heap.size ≠ g by omega)
  have HRM := Aside0.mk (show W1.heap.size ≠ w.heap.size by have := hW1.size; omega)
  have HGW := Aside0.mk (show w.heap.size ≤ g by have := HB0.out.size; have := h1.size; omega)
  have HMW := Aside0.mk (show w.heap.size ≤ w.heap.size by omega)
  clear hal hW1 hmlt hglt hgge h1 h2 hrd HM0 HB0 HR1
  go_wp2_with fail
  have hrb : (W1.alloc (.cells #[.pointer (some ⟨g, 0, none⟩)] 146)).drew.cell? ⟨W1.heap.size, 0, none⟩ = some (.pointer (some ⟨g, 0, none⟩)) := blk_cell HPa.out 0
  refine start_ (n := 12) (S := fun w' => w'.cell? ⟨W1.heap.size, 0, none⟩ = some (.pointer (some ⟨g, 0, none⟩))) (ds := []) #[false, false, false, false, false, false, false, false, false, false, false, false] (by kernel_rfl) rfl rfl (hrb) (fun hHeld => ?_)
  generalize (W1.alloc (.cells #[.pointer (some ⟨g, 0, none⟩)] 146)).drew = wa at *
  refine take_ (i := 0) (N := some 15) (v := ?_) (a' := ?_) #[true, false, false, false, false, false, false, false, false, false, false, false] rfl rfl (by kernel_rfl) (fun _ _ _ h => h) (Or.inl ⟨by rfl, ?_⟩) hHeld ?_ ?_
  rotate_left
  · intro w' s0
    go_simp
    with_reducible rfl
  rotate_left
  · simp only [Act.put, List.setIfInBounds_toArray, List.set_cons_zero, List.set_cons_succ, i64_w, i32_w]
    rfl
  refine take_ (i := 2) (N := some 17) (v := ?_) (a' := ?_) #[true, false, true, false, false, false, false, false, false, false, false, false] rfl rfl (by kernel_rfl) (fun _ _ _ h => h) (Or.inl ⟨by rfl, ?_⟩) hHeld ?_ ?_
  rotate_left
  · intro w' s0
    go_simp
    with_reducible rfl
  rotate_left
  · simp only [Act.put, List.setIfInBounds_toArray, List.set_cons_zero, List.set_cons_succ, i64_w, i32_w]
    rfl
  refine take_ (i := 4) (N := some 19) (v := ?_) (a' := ?_) #[true, false, true, false, true, false, false, false, false, false, false, false] rfl rfl (by kernel_rfl) (fun _ _ _ h => h) (Or.inl ⟨by rfl, ?_⟩) hHeld ?_ ?_
  rotate_left
  · intro w' s0
    go_simp
    with_reducible rfl
  rotate_left
  · simp only [Act.put, List.setIfInBounds_toArray, List.set_cons_zero, List.set_cons_succ, i64_w, i32_w]
    rfl
  refine one_ (i := 1) (N := some 16) #[true, true, true, false, true, false, false, false, false, false, false, false] rfl rfl (by kernel_rfl) (by decide) (fun K hK => ?_)
  refine goes_ Tryz.func90 (by kernel_rfl) rfl #[.pointer (some ⟨g, 0, none⟩)] (by rfl) rfl rfl (by simp only [List.map_toArray, List.map_cons, List.map_nil]; rfl) ?_
  with_reducible refine (mr_number w.heap.size g 0 0 1 1 wa rfl HRa.out (by decide) (by decide) (by decide +kernel) lz0 (by decide) (by decide)).mono ?_
  rintro e wb ⟨rfl, hR, hK⟩
  refine ⟨_, rfl, ?_⟩
  have HRb := Aside0.mk hR
  have HMb := Aside0.mk (keep_blk hK.1 HMa.out (Nat.ne_of_lt hR.lt.1))
  have HPb := Aside0.mk (keep_blk hK.1 HPa.out HRG.out)
  have HBb := Aside0.mk (hK.2 w HBa.out HGW.out)
  have hrb : wb.cell? ⟨W1.heap.size, 0, none⟩ = some (.pointer (some ⟨g, 0, none⟩)) := blk_cell HPb.out 0
  clear hR hK
  refine hK.out _ _ (hrb) (fun hHeld => ?_)
  clear hK K
  refine norm_ (a' := ?_) ?_ ?_
  rotate_left
  · show Act.put _ (some 16) _ = _
    simp only [Act.put, List.setIfInBounds_toArray, List.set_cons_zero, List.set_cons_succ, i64_w, i32_w]
    rfl
  refine pure_ (i := 6) (N := some 21) (v := ?_) (a' := ?_) #[true, true, true, false, true, false, true, false, false, false, false, false] rfl rfl (by kernel_rfl) (fun _ _ _ h => h) (Or.inl ⟨by rfl, ?_⟩) ?_ ?_
  rotate_left
  · intro w'
    go_simp
    with_reducible rfl
  rotate_left
  · simp only [Act.put, List.setIfInBounds_toArray, List.set_cons_zero, List.set_cons_succ, i64_w, i32_w]
    rfl
  refine one_ (i := 3) (N := some 18) #[true, true, true, true, true, false, true, false, false, false, false, false] rfl rfl (by kernel_rfl) (by decide) (fun K hK => ?_)
  refine goes_ Tryz.func90 (by kernel_rfl) rfl #[.pointer (some ⟨g, 0, none⟩)] (by rfl) rfl rfl (by simp only [List.map_toArray, List.map_cons, List.map_nil]; rfl) ?_
  with_reducible refine (mr_number w.heap.size g 1 0 1 2 wb rfl HRb.out (by decide) (by decide) (by decide +kernel) lz1 (by decide) (by decide)).mono ?_
  rintro e wc ⟨rfl, hR, hK⟩
  refine ⟨_, rfl, ?_⟩
  have HRc := Aside0.mk hR
  have HMc := Aside0.mk (keep_blk hK.1 HMb.out (Nat.ne_of_lt hR.lt.1))
  have HPc := Aside0.mk (keep_blk hK.1 HPb.out HRG.out)
  have HBc := Aside0.mk (hK.2 w HBb.out HGW.out)
  have hrb : wc.cell? ⟨W1.heap.size, 0, none⟩ = some (.pointer (some ⟨g, 0, none⟩)) := blk_cell HPc.out 0
  clear hR hK
  refine hK.out _ _ (hrb) (fun hHeld => ?_)
  clear hK K
  refine norm_ (a' := ?_) ?_ ?_
  rotate_left
  · show Act.put _ (some 18) _ = _
    simp only [Act.put, List.setIfInBounds_toArray, List.set_cons_zero, List.set_cons_succ, i64_w, i32_w]
    rfl
  refine one_ (i := 5) (N := some 20) #[true, true, true, true, true, true, true, false, false, false, false, false] rfl rfl (by kernel_rfl) (by decide) (fun K hK => ?_)
  refine goes_ Tryz.func90 (by kernel_rfl) rfl #[.pointer (some ⟨g, 0, none⟩)] (by rfl) rfl rfl (by simp only [List.map_toArray, List.map_cons, List.map_nil]; rfl) ?_
  with_reducible refine (mr_number w.heap.size g 2 1 1 3 wc rfl HRc.out (by decide) (by decide) (by decide +kernel) lz2 (by decide) (by decide)).mono ?_
  rintro e wd ⟨rfl, hR, hK⟩
  refine ⟨_, rfl, ?_⟩
  have HRd := Aside0.mk hR
  have HMd := Aside0.mk (keep_blk hK.1 HMc.out (Nat.ne_of_lt hR.lt.1))
  have HPd := Aside0.mk (keep_blk hK.1 HPc.out HRG.out)
  have HBd := Aside0.mk (hK.2 w HBc.out HGW.out)
  have hrb : wd.cell? ⟨W1.heap.size, 0, none⟩ = some (.pointer (some ⟨g, 0, none⟩)) := blk_cell HPd.out 0
  clear hR hK
  have qm : wd.cell? ⟨w.heap.size, 0, none⟩ = some (.int .i64 0) := blk_cell HMd.out 0
  have qf := blk_frozen HMd.out 0
  refine hK.out _ _ (hrb) (fun hHeld => ?_)
  clear hK K
  refine norm_ (a' := ?_) ?_ ?_
  rotate_left
  · show Act.put _ (some 20) _ = _
    simp only [Act.put, List.setIfInBounds_toArray, List.set_cons_zero, List.set_cons_succ, i64_w, i32_w]
    rfl
  refine one_ (i := 7) (N := none) #[true, true, true, true, true, true, true, true, false, false, false, false] rfl rfl (by kernel_rfl) (by decide) (fun K hK => ?_)
  refine skip_ (w1 := ?_) (by rfl) rfl ?_ ?_
  rotate_left
  · go_simp
    rfl
  have hst : KeepBut wd (wd.setCell ⟨w.heap.size, 0, none⟩ (.int .i64 0)) w.heap.size none := (KeepBut.refl _ _ _).set_ 0 _
  have HRe := Aside0.mk (HRd.out.store (by decide) HMd.out (mc_no _ _ _ _ _ _ _ _ _) hst)
  have HMe := Aside0.mk (show (wd.setCell ⟨w.heap.size, 0, none⟩ (.int .i64 0)).heap[w.heap.size]? = some (.cells (MCells 0 0 (.slice none 0 0) 0 (.slice none 0 0)) 27 (0, 0)) from by simpa [MCells] using blk_set HMd.out 0 (.int .i64 0))
  have HPe := Aside0.mk (keep_blk hst HPd.out HRM.out)
  have HBe := Aside0.mk (show Below w.heap.size w (wd.setCell ⟨w.heap.size, 0, none⟩ (.int .i64 0)) from HBd.out.setCell (Nat.le_refl _) _)
  generalize hws : wd.setCell ⟨w.heap.size, 0, none⟩ (.int .i64 0) = we at *
  have hrb : we.cell? ⟨W1.heap.size, 0, none⟩ = some (.pointer (some ⟨g, 0, none⟩)) := blk_cell HPe.out 0
  have qm : we.cell? ⟨w.heap.size, 1, none⟩ = some (.int .i64 0) := blk_cell HMe.out 1
  have qf := blk_frozen HMe.out 1
  refine hK.out _ _ (hrb) (fun hHeld => ?_)
  clear hK K
  refine pure_ (i := 8) (N := some 22) (v := ?_) (a' := ?_) #[true, true, true, true, true, true, true, true, true, false, false, false] rfl rfl (by kernel_rfl) (fun _ _ _ h => h) (Or.inl ⟨by rfl, ?_⟩) ?_ ?_
  rotate_left
  · intro w'
    go_simp
    with_reducible rfl
  rotate_left
  · simp only [Act.put, List.setIfInBounds_toArray, List.set_cons_zero, List.set_cons_succ, i64_w, i32_w]
    rfl
  refine one_ (i := 9) (N := none) #[true, true, true, true, true, true, true, true, true, true, false, false] rfl rfl (by kernel_rfl) (by decide) (fun K hK => ?_)
  refine skip_ (w1 := ?_) (by rfl) rfl ?_ ?_
  rotate_left
  · go_simp
    rfl
  have hst : KeepBut we (we.setCell ⟨w.heap.size, 1, none⟩ (.int .i64 0)) w.heap.size none := (KeepBut.refl _ _ _).set_ 1 _
  have HRf := Aside0.mk (HRe.out.store (by decide) HMe.out (mc_no _ _ _ _ _ _ _ _ _) hst)
  have HMf := Aside0.mk (show (we.setCell ⟨w.heap.size, 1, none⟩ (.int .i64 0)).heap[w.heap.size]? = some (.cells (MCells 0 0 (.slice none 0 0) 0 (.slice none 0 0)) 27 (0, 0)) from by simpa [MCells] using blk_set HMe.out 1 (.int .i64 0))
  have HPf := Aside0.mk (keep_blk hst HPe.out HRM.out)
  have HBf := Aside0.mk (show Below w.heap.size w (we.setCell ⟨w.heap.size, 1, none⟩ (.int .i64 0)) from HBe.out.setCell (Nat.le_refl _) _)
  generalize hws : we.setCell ⟨w.heap.size, 1, none⟩ (.int .i64 0) = wf at *
  have hrb : wf.cell? ⟨W1.heap.size, 0, none⟩ = some (.pointer (some ⟨g, 0, none⟩)) := blk_cell HPf.out 0
  have qm : wf.cell? ⟨w.heap.size, 3, none⟩ = some (.int .i64 0) := blk_cell HMf.out 3
  have qf := blk_frozen HMf.out 3
  refine hK.out _ _ (hrb) (fun hHeld => ?_)
  clear hK K
  refine pure_ (i := 10) (N := some 23) (v := ?_) (a' := ?_) #[true, true, true, true, true, true, true, true, true, true, true, false] rfl rfl (by kernel_rfl) (fun _ _ _ h => h) (Or.inl ⟨by rfl, ?_⟩) ?_ ?_
  rotate_left
  · intro w'
    go_simp
    with_reducible rfl
  rotate_left
  · simp only [Act.put, List.setIfInBounds_toArray, List.set_cons_zero, List.set_cons_succ, i64_w, i32_w]
    rfl
  refine one_ (i := 11) (N := none) #[true, true, true, true, true, true, true, true, true, true, true, true] rfl rfl (by kernel_rfl) (by decide) (fun K hK => ?_)
  refine skip_ (w1 := ?_) (by rfl) rfl ?_ ?_
  rotate_left
  · go_simp
    rfl
  have hst : KeepBut wf (wf.setCell ⟨w.heap.size, 3, none⟩ (.int .i64 1)) w.heap.size none := (KeepBut.refl _ _ _).set_ 3 _
  have HRh := Aside0.mk (HRf.out.store (by decide) HMf.out (mc_no _ _ _ _ _ _ _ _ _) hst)
  have HMh := Aside0.mk (show (wf.setCell ⟨w.heap.size, 3, none⟩ (.int .i64 1)).heap[w.heap.size]? = some (.cells (MCells 0 0 (.slice none 0 0) 1 (.slice none 0 0)) 27 (0, 0)) from by simpa [MCells] using blk_set HMf.out 3 (.int .i64 1))
  have HPh := Aside0.mk (keep_blk hst HPf.out HRM.out)
  have HBh := Aside0.mk (show Below w.heap.size w (wf.setCell ⟨w.heap.size, 3, none⟩ (.int .i64 1)) from HBf.out.setCell (Nat.le_refl _) _)
  generalize hws : wf.setCell ⟨w.heap.size, 3, none⟩ (.int .i64 1) = wh at *
  have hrb : wh.cell? ⟨W1.heap.size, 0, none⟩ = some (.pointer (some ⟨g, 0, none⟩)) := blk_cell HPh.out 0
  refine hK.out _ _ (hrb) (fun hHeld => ?_)
  clear hK K
  refine done_ (by kernel_rfl) ?_
  go_wp2_with fail
  refine (mr_schema w.heap.size g wh HRh.out).mono ?_
  rintro e wi ⟨sb, cs, rfl, hcs, hC, hs1, hs2, hR, hK⟩
  have HRi := Aside0.mk hR
  have HMi := Aside0.mk (keep_blk hK.1 HMh.out (Nat.ne_of_lt hR.lt.1))
  have HPi := Aside0.mk (keep_blk hK.1 HPh.out HRG.out)
  have HBi := Aside0.mk (hK.2 w HBh.out HGW.out)
  have hrb : wi.cell? ⟨W1.heap.size, 0, none⟩ = some (.pointer (some ⟨g, 0, none⟩)) := blk_cell HPi.out 0
  have HCS := Aside0.mk hcs
  have HSW := Aside0.mk (show w.heap.size ≤ sb from Nat.le_trans HBh.out.size hs1)
  have HSG := Aside0.mk (show sb ≠ g by have := HRh.out.lt.2; omega)
  have HSM := Aside0.mk (show sb ≠ w.heap.size by have := blk_lt HMh.out; omega)
  have HCi := Aside0.mk hC
  have HSi := Aside0.mk hs2
  clear hcs hC hs1 hs2 hR hK
  have qm : wi.cell? ⟨w.heap.size, 2, none⟩ = some (.slice none 0 0) := blk_cell HMi.out 2
  have qf := blk_frozen HMi.out 2
  have hst : KeepBut wi (wi.setCell ⟨w.heap.size, 2, none⟩ (.slice (some ⟨sb, 0, none⟩) 1 cs)) w.heap.size none := (KeepBut.refl _ _ _).set_ 2 _
  have HRj := Aside0.mk (HRi.out.store (by decide) HMi.out (mc_no _ _ _ _ _ _ _ _ _) hst)
  have HMj := Aside0.mk (show (wi.setCell ⟨w.heap.size, 2, none⟩ (.slice (some ⟨sb, 0, none⟩) 1 cs)).heap[w.heap.size]? = some (.cells (MCells 0 0 (.slice (some ⟨sb, 0, none⟩) 1 cs) 1 (.slice none 0 0)) 27 (0, 0)) from by simpa [MCells] using blk_set HMi.out 2 (.slice (some ⟨sb, 0, none⟩) 1 cs))
  have HPj := Aside0.mk (keep_blk hst HPi.out HRM.out)
  have HBj := Aside0.mk (show Below w.heap.size w (wi.setCell ⟨w.heap.size, 2, none⟩ (.slice (some ⟨sb, 0, none⟩) 1 cs)) from HBi.out.setCell (Nat.le_refl _) _)
  have hrb : (wi.setCell ⟨w.heap.size, 2, none⟩ (.slice (some ⟨sb, 0, none⟩) 1 cs)).cell? ⟨W1.heap.size, 0, none⟩ = some (.pointer (some ⟨g, 0, none⟩)) := blk_cell HPj.out 0
  have HSj := Aside0.mk (Nat.lt_of_lt_of_le HSi.out hst.1)
  have HCj := Aside0.mk (C_move_col HCi.out ((hst.2 sb HSi.out HSM.out (by simp))))
  go_wp2_with fail
  generalize hws : wi.setCell ⟨w.heap.size, 2, none⟩ (.slice (some ⟨sb, 0, none⟩) 1 cs) = wj at *
  refine (mr_number w.heap.size g 7 0 1 8 wj rfl HRj.out (by decide) (by decide) (by decide +kernel) lz7 (by decide) (by decide)).mono ?_
  rintro e wk ⟨rfl, hR, hK⟩
  have HRk := Aside0.mk hR
  have HMk := Aside0.mk (keep_blk hK.1 HMj.out (Nat.ne_of_lt hR.lt.1))
  have HPk := Aside0.mk (keep_blk hK.1 HPj.out HRG.out)
  have HBk := Aside0.mk (hK.2 w HBj.out HGW.out)
  have hrb : wk.cell? ⟨W1.heap.size, 0, none⟩ = some (.pointer (some ⟨g, 0, none⟩)) := blk_cell HPk.out 0
  have HCk := Aside0.mk (C_move_col HCj.out (hK.1.2 sb HSj.out HSG.out (by simp)))
  have HSk := Aside0.mk (Nat.lt_of_lt_of_le HSj.out hK.1.1)
  clear hR hK
  have q2 : wk.cell? ⟨w.heap.size, 2, none⟩ = some (.slice (some ⟨sb, 0, none⟩) 1 cs) := blk_cell HMk.out 2
  go_wp2_with fail
  refine wp_loop_rounds 1 ?_
  rw [rounds_succ]
  go_wp2_with fail
  refine (mr_rows w.heap.size sb cs g wk HRk.out).mono ?_
  rintro e wl ⟨rfl, hR, hK⟩
  have HRl := Aside0.mk hR
  have HMl := Aside0.mk (keep_blk hK.1 HMk.out (Nat.ne_of_lt hR.lt.1))
  have HPl := Aside0.mk (keep_blk hK.1 HPk.out HRG.out)
  have HBl := Aside0.mk (hK.2 w HBk.out HGW.out)
  have hrb : wl.cell? ⟨W1.heap.size, 0, none⟩ = some (.pointer (some ⟨g, 0, none⟩)) := blk_cell HPl.out 0
  have HCl := Aside0.mk (C_move_col HCk.out (hK.1.2 sb HSk.out HSG.out (by simp)))
  have HSl := Aside0.mk (Nat.lt_of_lt_of_le HSk.out hK.1.1)
  clear hR hK
  have q5 : wl.cell? ⟨w.heap.size, 5, none⟩ = some (.slice none 0 0) := blk_cell HMl.out 5
  have qm : wl.cell? ⟨w.heap.size, 5, none⟩ = some (.slice none 0 0) := blk_cell HMl.out 5
  have qf := blk_frozen HMl.out 5
  have hst : KeepBut wl (wl.setCell ⟨w.heap.size, 5, none⟩ (.slice none 0 0)) w.heap.size none := (KeepBut.refl _ _ _).set_ 5 _
  have HRm := Aside0.mk (HRl.out.store (by decide) HMl.out (mc_no _ _ _ _ _ _ _ _ _) hst)
  have HMm := Aside0.mk (show (wl.setCell ⟨w.heap.size, 5, none⟩ (.slice none 0 0)).heap[w.heap.size]? = some (.cells (MCells 0 0 (.slice (some ⟨sb, 0, none⟩) 1 cs) 1 (.slice none 0 0)) 27 (0, 0)) from by simpa [MCells] using blk_set HMl.out 5 (.slice none 0 0))
  have HPm := Aside0.mk (keep_blk hst HPl.out HRM.out)
  have HBm := Aside0.mk (show Below w.heap.size w (wl.setCell ⟨w.heap.size, 5, none⟩ (.slice none 0 0)) from HBl.out.setCell (Nat.le_refl _) _)
  have hrb : (wl.setCell ⟨w.heap.size, 5, none⟩ (.slice none 0 0)).cell? ⟨W1.heap.size, 0, none⟩ = some (.pointer (some ⟨g, 0, none⟩)) := blk_cell HPm.out 0
  have HSm := Aside0.mk (Nat.lt_of_lt_of_le HSl.out hst.1)
  have HCm := Aside0.mk (C_move_col HCl.out ((hst.2 sb HSl.out HSM.out (by simp))))
  go_wp2_with fail
  generalize hws : wl.setCell ⟨w.heap.size, 5, none⟩ (.slice none 0 0) = wm at *
  refine (mr_number w.heap.size g 9 1 1 10 wm rfl HRm.out (by decide) (by decide) (by decide +kernel) lz9 (by decide) (by decide)).mono ?_
  rintro e wn ⟨rfl, hR, hK⟩
  have HRn := Aside0.mk hR
  have HMn := Aside0.mk (keep_blk hK.1 HMm.out (Nat.ne_of_lt hR.lt.1))
  have HPn := Aside0.mk (keep_blk hK.1 HPm.out HRG.out)
  have HBn := Aside0.mk (hK.2 w HBm.out HGW.out)
  have hrb : wn.cell? ⟨W1.heap.size, 0, none⟩ = some (.pointer (some ⟨g, 0, none⟩)) := blk_cell HPn.out 0
  have HCn := Aside0.mk (C_move_col HCm.out (hK.1.2 sb HSm.out HSG.out (by simp)))
  have HSn := Aside0.mk (Nat.lt_of_lt_of_le HSm.out hK.1.1)
  clear hR hK
  go_wp2_with fail
  refine wp_loop_rounds 2 ?_
  rw [rounds_succ]
  go_wp2_with fail
  refine (m_goodf w.heap.size W1.heap.size g 10 wn HRn.out HPn.out).mono ?_
  rintro e wo ⟨rfl, hb⟩
  have hR := HRn.out.below hb
  have hK : RCall wn wo g := RCall.of_below hb
  have HRo := Aside0.mk hR
  have HMo := Aside0.mk (keep_blk hK.1 HMn.out (Nat.ne_of_lt hR.lt.1))
  have HPo := Aside0.mk (keep_blk hK.1 HPn.out HRG.out)
  have HBo := Aside0.mk (hK.2 w HBn.out HGW.out)
  have hrb : wo.cell? ⟨W1.heap.size, 0, none⟩ = some (.pointer (some ⟨g, 0, none⟩)) := blk_cell HPo.out 0
  have HCo := Aside0.mk (C_move_col HCn.out (hb.block sb HSn.out))
  have HSo := Aside0.mk (Nat.lt_of_lt_of_le HSn.out hb.size)
  clear hR hK hb
  go_wp2_with fail
  have hrb : wo.drew.cell? ⟨W1.heap.size, 0, none⟩ = some (.pointer (some ⟨g, 0, none⟩)) := blk_cell (show wo.drew.heap[W1.heap.size]? = _ from HPo.out) 0
  have hq6 : wo.drew.cell? ⟨w.heap.size, 6, none⟩ = some (.slice none 0 0) := blk_cell (show wo.drew.heap[w.heap.size]? = _ from HMo.out) 6
  have HRp := Aside0.mk (HRo.out.below (below_drew (Below.refl _ wo)))
  have HMp := Aside0.mk (show wo.drew.heap[w.heap.size]? = some (.cells (MCells 0 0 (.slice (some ⟨sb, 0, none⟩) 1 cs) 1 (.slice none 0 0)) 27 (0, 0)) from HMo.out)
  have HPp := Aside0.mk (show wo.drew.heap[W1.heap.size]? = some (.cells #[.pointer (some ⟨g, 0, none⟩)] 146 (0, 0)) from HPo.out)
  have HBp := Aside0.mk (below_drew HBo.out)
  have HCp := Aside0.mk (show Kd.C k123 wo.drew (some ⟨sb, 0, none⟩) 1 [⟨1, false, -1⟩] from HCo.out)
  have HSp := Aside0.mk (show sb < wo.drew.heap.size from HSo.out)
  refine start_ (n := 8) (S := fun w' => w'.cell? ⟨W1.heap.size, 0, none⟩ = some (.pointer (some ⟨g, 0, none⟩)) ∧ w'.cell? ⟨w.heap.size, 6, none⟩ = some (.slice none 0 0)) (ds := [7]) #[false, false, false, false, false, false, false, false] (by kernel_rfl) rfl rfl ⟨hrb, hq6⟩ (fun hHeld => ?_)
  generalize wo.drew = wp at *
  refine pure_ (i := 0) (N := some 68) (v := ?_) (a' := ?_) #[true, false, false, false, false, false, false, false] rfl rfl (by kernel_rfl) (fun _ _ _ h => h) (Or.inl ⟨by rfl, ?_⟩) ?_ ?_
  rotate_left
  · intro w'
    go_simp
    with_reducible rfl
  rotate_left
  · simp only [Act.put, List.setIfInBounds_toArray, List.set_cons_zero, List.set_cons_succ, i64_w, i32_w]
    rfl
  refine take_ (i := 1) (N := some 69) (v := ?_) (a' := ?_) #[true, true, false, false, false, false, false, false] rfl rfl (by kernel_rfl) (fun _ _ _ h => h) (Or.inl ⟨by rfl, ?_⟩) hHeld ?_ ?_
  rotate_left
  · rintro w' ⟨s0, s1⟩
    go_simp
    with_reducible rfl
  rotate_left
  · simp only [Act.put, List.setIfInBounds_toArray, List.set_cons_zero, List.set_cons_succ, i64_w, i32_w]
    rfl
  refine take_ (i := 2) (N := some 70) (v := ?_) (a' := ?_) #[true, true, true, false, false, false, false, false] rfl rfl (by kernel_rfl) (fun _ _ _ h => h) (Or.inl ⟨by rfl, ?_⟩) hHeld ?_ ?_
  rotate_left
  · rintro w' ⟨s0, s1⟩
    go_simp
    with_reducible rfl
  rotate_left
  · simp only [Act.put, List.setIfInBounds_toArray, List.set_cons_zero, List.set_cons_succ, i64_w, i32_w]
    rfl
  refine one_ (i := 3) (N := some 71) #[true, true, true, true, false, false, false, false] rfl rfl (by kernel_rfl) (by decide) (fun K hK => ?_)
  refine goes_ Tryz.func95 (by kernel_rfl) rfl #[.pointer (some ⟨g, 0, none⟩)] (by rfl) rfl rfl (by simp only [List.map_toArray, List.map_cons, List.map_nil]; rfl) ?_
  with_reducible refine (mr_entry w.heap.size g wp HRp.out).mono ?_
  rintro e wq ⟨rfl, hR, hK⟩
  refine ⟨_, rfl, ?_⟩
  have HRq := Aside0.mk hR
  have HMq := Aside0.mk (keep_blk hK.1 HMp.out (Nat.ne_of_lt hR.lt.1))
  have HPq := Aside0.mk (keep_blk hK.1 HPp.out HRG.out)
  have HBq := Aside0.mk (hK.2 w HBp.out HGW.out)
  have hrb : wq.cell? ⟨W1.heap.size, 0, none⟩ = some (.pointer (some ⟨g, 0, none⟩)) := blk_cell HPq.out 0
  have HCq := Aside0.mk (C_move_col HCp.out (hK.1.2 sb HSp.out HSG.out (by simp)))
  have HSq := Aside0.mk (Nat.lt_of_lt_of_le HSp.out hK.1.1)
  have hq6 : wq.cell? ⟨w.heap.size, 6, none⟩ = some (.slice none 0 0) := blk_cell HMq.out 6
  clear hR hK
  refine hK.out _ _ ⟨hrb, hq6⟩ (fun hHeld => ?_)
  clear hK K
  refine norm_ (a' := ?_) ?_ ?_
  rotate_left
  · show Act.put _ (some 71) _ = _
    simp only [Act.put, List.setIfInBounds_toArray, List.set_cons_zero, List.set_cons_succ, i64_w, i32_w]
    rfl
  refine one_ (i := 4) (N := some 72) #[true, true, true, true, true, false, false, false] rfl rfl (by kernel_rfl) (by decide) (fun K hK => ?_)
  refine value_ (w1 := ?_) (v := ?_) (by rfl) rfl ?_ ?_
  rotate_left 2
  · show _ = Result.ok (Next.value (Value.slice (some ⟨wq.heap.size, 0, none⟩) 1 1)) (wq.alloc (.cells Tryz.zeroCells81 81))
    kernel_rfl
  have hba : Below wq.heap.size wq (wq.alloc (.cells Tryz.zeroCells81 81)) := below_alloc (Below.refl _ _) _
  have hrb := pw_cell_below hba hrb
  have hq6 := pw_cell_below hba hq6
  have hone : ∀ u ∈ Tryz.zeroCells81.toList, u.oneCell' = true := fun u hu => List.all_eq_true.1 (show Tryz.zeroCells81.toList.all (·.oneCell') = true from by kernel_rfl) u hu
  refine hK.out _ _ ⟨hrb, hq6⟩ (fun hHeld => ?_)
  clear hK K
  refine norm_ (a' := ?_) ?_ ?_
  rotate_left
  · show Act.put _ (some 72) _ = _
    simp only [Act.put, List.setIfInBounds_toArray, List.set_cons_zero, List.set_cons_succ, i64_w, i32_w]
    rfl
  refine one_ (i := 5) (N := some 73) #[true, true, true, true, true, true, false, false] rfl rfl (by kernel_rfl) (by decide) (fun K hK => ?_)
  refine Kd.R_append_step (Kd.raw 65) (w0 := wq) wq.heap.size (by rfl) (.tmp 69) (.tmp 72) 25 81 (.agg Tryz.zeroCells81) 72 rfl Tryz.underlying25 (by kernel_rfl) (by kernel_rfl) (by decide) (by decide) (.slice none 0 0) [] Tryz.zeroCells81.toList Tryz.zeroCells81.toList (fun _ => True) (fun _ => False) rfl rfl ⟨rfl, by kernel_rfl, hone⟩ (fun _ h => h.elim) (fun _ _ => trivial) (Kd.R_nil _ _ _ _ _) (Below.refl _ _) (Nat.le_refl _) (by decide) ?_
  intro v5 wr ho hbr _ _
  obtain ⟨eb, ce, rfl, _⟩ := Kd.R_form ho (by simp)
  have hrd := Kd.R_reads' ho
  have HCE := Aside0.mk hrd.2.1
  have HEr := Aside0.mk (EntC.of_raw hrd.2.2)
  have HEL := Aside0.mk (Kd.R_lt ho eb rfl)
  have heb := Kd.R_base ho eb rfl
  have HEW := Aside0.mk (show w.heap.size ≤ eb from Nat.le_trans HBq.out.size heb)
  have HRr := Aside0.mk (HRq.out.below hbr)
  have HMr := Aside0.mk ((hbr.block _ (blk_lt HMq.out)).trans HMq.out)
  have HPr := Aside0.mk ((hbr.block _ (blk_lt HPq.out)).trans HPq.out)
  have HBr := Aside0.mk (below_then HBq.out HBq.out.size hbr)
  have HCr := Aside0.mk (C_move_col HCq.out (hbr.block sb HSq.out))
  have HSr := Aside0.mk (Nat.lt_of_lt_of_le HSq.out hbr.size)
  have HEG := Aside0.mk (show eb ≠ g by have := HRq.out.lt.2; omega)
  have HEM := Aside0.mk (show eb ≠ w.heap.size by have := blk_lt HMq.out; omega)
  have hrb : wr.cell? ⟨W1.heap.size, 0, none⟩ = some (.pointer (some ⟨g, 0, none⟩)) := blk_cell HPr.out 0
  have hq6 : wr.cell? ⟨w.heap.size, 6, none⟩ = some (.slice none 0 0) := blk_cell HMr.out 6
  have qf := blk_frozen HMr.out 6
  clear ho hbr hrd heb
  refine hK.out _ _ ⟨hrb, hq6⟩ (fun hHeld => ?_)
  clear hK K
  refine norm_ (a' := ?_) ?_ ?_
  rotate_left
  · show Act.put _ (some 73) _ = _
    simp only [Act.put, List.setIfInBounds_toArray, List.set_cons_zero, List.set_cons_succ, i64_w, i32_w]
    rfl
  refine pure_ (i := 6) (N := some 74) (v := ?_) (a' := ?_) #[true, true, true, true, true, true, true, false] rfl rfl (by kernel_rfl) (fun _ _ _ h => h) (Or.inl ⟨by rfl, ?_⟩) ?_ ?_
  rotate_left
  · intro w'
    go_simp
    with_reducible rfl
  rotate_left
  · simp only [Act.put, List.setIfInBounds_toArray, List.set_cons_zero, List.set_cons_succ, i64_w, i32_w]
    rfl
  refine last_ (i := 7) (N := none) #[true, true, true, true, true, true, true, true] rfl rfl (by kernel_rfl) (by decide) (fun K hK => ?_)
  refine skip_ (w1 := ?_) (by rfl) rfl ?_ ?_
  rotate_left
  · go_simp
    rfl
  have hst : KeepBut wr (wr.setCell ⟨w.heap.size, 6, none⟩ (.slice (some ⟨eb, 0, none⟩) 1 ce)) w.heap.size none := (KeepBut.refl _ _ _).set_ 6 _
  have HRs := Aside0.mk (HRr.out.store (by decide) HMr.out (mc_no _ _ _ _ _ _ _ _ _) hst)
  have HMs := Aside0.mk (show (wr.setCell ⟨w.heap.size, 6, none⟩ (.slice (some ⟨eb, 0, none⟩) 1 ce)).heap[w.heap.size]? = some (.cells (MCells 0 0 (.slice (some ⟨sb, 0, none⟩) 1 cs) 1 (.slice (some ⟨eb, 0, none⟩) 1 ce)) 27 (0, 0)) from by simpa [MCells] using blk_set HMr.out 6 (.slice (some ⟨eb, 0, none⟩) 1 ce))
  have HPs := Aside0.mk (keep_blk hst HPr.out HRM.out)
  have HBs := Aside0.mk (show Below w.heap.size w (wr.setCell ⟨w.heap.size, 6, none⟩ (.slice (some ⟨eb, 0, none⟩) 1 ce)) from HBr.out.setCell (Nat.le_refl _) _)
  have HCs := Aside0.mk (C_move_col HCr.out (hst.2 sb HSr.out HSM.out (by simp)))
  have HSs := Aside0.mk (Nat.lt_of_lt_of_le HSr.out hst.1)
  have HEs := Aside0.mk (HEr.out.move (hst.2 eb HEL.out HEM.out (by simp)))
  have HELs := Aside0.mk (Nat.lt_of_lt_of_le HEL.out hst.1)
  generalize hws : wr.setCell ⟨w.heap.size, 6, none⟩ (.slice (some ⟨eb, 0, none⟩) 1 ce) = ws at *
  have hrb : ws.cell? ⟨W1.heap.size, 0, none⟩ = some (.pointer (some ⟨g, 0, none⟩)) := blk_cell HPs.out 0
  refine hK.out _ _ ?_
  clear hK K
  refine done_ (by kernel_rfl) ?_
  go_wp2_with fail
  rw [rounds_succ]
  go_wp2_with fail
  refine (mr_end w.heap.size g ws HRs.out).mono ?_
  rintro e wt ⟨rfl, hb⟩
  have HRt := Aside0.mk (HRs.out.below hb)
  have HMt := Aside0.mk ((hb.block _ (blk_lt HMs.out)).trans HMs.out)
  have HPt := Aside0.mk ((hb.block _ (blk_lt HPs.out)).trans HPs.out)
  have HBt := Aside0.mk (below_then HBs.out HBs.out.size hb)
  have HCt := Aside0.mk (C_move_col HCs.out (hb.block sb HSs.out))
  have HSt := Aside0.mk (Nat.lt_of_lt_of_le HSs.out hb.size)
  have HEt := Aside0.mk (HEs.out.move (hb.block eb HELs.out))
  have HELt := Aside0.mk (Nat.lt_of_lt_of_le HELs.out hb.size)
  clear hb
  go_wp2_with (refine wpList_load_row rfl 27 (.tmp 2) rfl w.heap.size rfl 27 (MCells 0 0 (.slice (some ⟨sb, 0, none⟩) 1 cs) 1 (.slice (some ⟨eb, 0, none⟩) 1 ce)) (0, 0) _ HMt.out Tryz.underlying27 rfl (by kernel_rfl) ?_)
  refine (m_check sb cs eb ce wt ⟨HCS.out, HCE.out, HCt.out, HEt.out⟩).mono ?_
  rintro e wu ⟨rfl, hb⟩
  have HRu := Aside0.mk (HRt.out.below hb)
  have HMu := Aside0.mk ((hb.block _ (blk_lt HMt.out)).trans HMt.out)
  have HPu := Aside0.mk ((hb.block _ (blk_lt HPt.out)).trans HPt.out)
  have HBu := Aside0.mk (below_then HBt.out HBt.out.size hb)
  have HCu := Aside0.mk (C_move_col HCt.out (hb.block sb HSt.out))
  have HSu := Aside0.mk (Nat.lt_of_lt_of_le HSt.out hb.size)
  have HEu := Aside0.mk (HEt.out.move (hb.block eb HELt.out))
  clear hb
  go_wp2_with (first | (refine wpList_load_row rfl 27 (.tmp 2) rfl w.heap.size rfl 27 (MCells 0 0 (.slice (some ⟨sb, 0, none⟩) 1 cs) 1 (.slice (some ⟨eb, 0, none⟩) 1 ce)) (0, 0) _ HMu.out Tryz.underlying27 rfl (by kernel_rfl) ?_) | (refine wpList_store_row rfl 27 (.tmp 2) (.tmp 94) rfl w.heap.size (MCells 0 0 (.slice (some ⟨sb, 0, none⟩) 1 cs) 1 (.slice (some ⟨eb, 0, none⟩) 1 ce)) rfl rfl 27 (MCells 0 0 (.slice (some ⟨sb, 0, none⟩) 1 cs) 1 (.slice (some ⟨eb, 0, none⟩) 1 ce)) HMu.out (by kernel_rfl) rfl (by kernel_rfl) ?_))
  rw [setRow_self wu w.heap.size _ _ _ HMu.out]
  refine bodyPost_ret (v := .tuple #[ManV sb cs eb ce, .nilIface]) (results_cr_tmp (p := 2) (u := 3) rfl _ _ w.heap.size 27 (MCells 0 0 (.slice (some ⟨sb, 0, none⟩) 1 cs) 1 (.slice (some ⟨eb, 0, none⟩) 1 ce)) (0, 0) _ rfl HMu.out Tryz.underlying27 rfl (by kernel_rfl)) rfl ?_
  exact ⟨sb, cs, eb, ce, rfl, ⟨HCS.out, HCE.out, HCu.out, HEu.out⟩, HSW.out, HEW.out, HBu.out⟩

end Go.Proofs.YtjmhiklmlgbifaaGreatDoor.PMan
end
section
namespace Go.Proofs.YtjmhiklmlgbifaaGreatDoor.PMan
open Go.RowKit Go.Proofs.YtjmhiklmlgbifaaGreatDoorW.PrintWords Go.Proofs.YtjmhiklmlgbifaaGreatDoorW.PrintLast Go.Proofs.YtjmhiklmlgbifaaGreatDoorW.PrintMore
attribute [local go_sem] max2_int min2_int max_two min_two max_three min_three max_four min_four   -- for this text's walks alone
set_option linter.unusedVariables false
set_option linter.unusedSimpArgs false

theorem leastF_get : frame_Get.f leastF = some (leastL, 83, 0) := by decide +kernel
theorem leastF_len : leastF.length = 83 := by decide +kernel
theorem m_belowRow {B : Nat} {w W : World} (h : Below B w W) (g : Nat) (hg : B ≤ g) (c : Array Value) : Below B w (W.setRow g c) :=
  ⟨h.os, h.tape, h.output, by rw [setRow_size]; exact h.size, fun k hk => (setRow_other W g k c (by omega)).trans (h.block k hk)⟩
set_option maxHeartbeats 4000000 in
set_option maxRecDepth 100000 in
theorem m_take (A0 : Option Addr) (c0 : Nat) (w : World) (hr0 : Kd.C (Kd.int .u8) w A0 leastF.length leastF) (hc0 : leastF.length ≤ c0) (hG : ErrT w) :
    Calls Tryz.prog 18 #[.slice A0 leastF.length c0] w fun ev w' => ∃ s cs e ce, ev = .returned (.tuple #[ManV s cs e ce, .int .i64 0]) ∧ ManP w' s cs e ce ∧ Below w.heap.size w w' := by
  have HR0 := Aside0.mk hr0
  have HC0 := Aside0.mk hc0
  have HG := Aside0.mk hG
  have hlen : decide ((83 : Int) < (leastF.length : Int)) = false := by rw [leastF_len]; rfl
  clear hr0 hc0 hG
  go_enter Tryz.func18, Tryz.ntmps18
  go_wp2_with fail
  have hm0 : (w.alloc (.cells (MCells 0 0 (.slice none 0 0) 0 (.slice none 0 0)) 27)).heap[w.heap.size]? = some (.cells (MCells 0 0 (.slice none 0 0) 0 (.slice none 0 0)) 27 (0, 0)) := heap_alloc_new w _
  have hb0 : Below w.heap.size w (w.alloc (.cells (MCells 0 0 (.slice none 0 0) 0 (.slice none 0 0)) 27)) := below_alloc (Below.refl _ _) _
  have HM0 := Aside0.mk hm0
  have HB0 := Aside0.mk hb0
  have HR1 := Aside0.mk (Kd.C_below HR0.out hb0)
  have HG0 := Aside0.mk (HG.out.of_below hb0)
  clear hm0 hb0
  generalize w.alloc (.cells (MCells 0 0 (.slice none 0 0) 0 (.slice none 0 0)) 27) = W0 at *
  refine (frame_Get.calls A0 c0 leastF leastL 83 0 W0 HR1.out HC0.out HG0.out leastF_get).mono ?_
  rintro e w1 ⟨v, rfl, hr, hb⟩
  obtain ⟨A, c, rfl⟩ := Kd.R_slice hr
  have hrd := Kd.R_reads' hr
  have HRD := Aside0.mk hrd.2.2
  have HCD := Aside0.mk hrd.2.1
  have HM1 := Aside0.mk ((hb.block _ (blk_lt HM0.out)).trans HM0.out)
  have HB1 := Aside0.mk (below_then HB0.out HB0.out.size hb)
  have HG1 := Aside0.mk (HG0.out.of_below hb)
  clear hr hb hrd
  go_wp2_with fail
  refine (m_read A c w1 HRD.out HCD.out HG1.out).mono ?_
  rintro e w2 ⟨s, cs, eb, ce, rfl, hM, hs, he, hb⟩
  have HMP := Aside0.mk hM
  have HSM := Aside0.mk (show s ≠ w.heap.size by have := blk_lt HM1.out; omega)
  have HEM := Aside0.mk (show eb ≠ w.heap.size by have := blk_lt HM1.out; omega)
  have HM2 := Aside0.mk ((hb.block _ (blk_lt HM1.out)).trans HM1.out)
  have HB2 := Aside0.mk (below_then HB1.out HB1.out.size hb)
  have hm3 := setRow_heap w2 w.heap.size _ (MCells 0 0 (.slice (some ⟨s, 0, none⟩) 1 cs) 1 (.slice (some ⟨eb, 0, none⟩) 1 ce)) _ _ HM2.out
  have hb3 := m_belowRow HB2.out w.heap.size (Nat.le_refl _) (MCells 0 0 (.slice (some ⟨s, 0, none⟩) 1 cs) 1 (.slice (some ⟨eb, 0, none⟩) 1 ce))
  have HM3 := Aside0.mk hm3
  have HB3 := Aside0.mk hb3
  have HMP3 := Aside0.mk (show ManP (w2.setRow w.heap.size (MCells 0 0 (.slice (some ⟨s, 0, none⟩) 1 cs) 1 (.slice (some ⟨eb, 0, none⟩) 1 ce))) s cs eb ce from ⟨hM.1, hM.2.1, C_move_col hM.2.2.1 (setRow_other _ _ _ _ HSM.out), hM.2.2.2.move (setRow_other _ _ _ _ HEM.out)⟩)
  clear hM hs he hb hm3 hb3
  go_wp2_with (refine wpList_store_row rfl 27 (.tmp 2) (.tmp 27) rfl w.heap.size (MCells 0 0 (.slice (some ⟨s, 0, none⟩) 1 cs) 1 (.slice (some ⟨eb, 0, none⟩) 1 ce)) rfl rfl 27 _ HM2.out (by kernel_rfl) rfl (by kernel_rfl) ?_)
  generalize w2.setRow w.heap.size (MCells 0 0 (.slice (some ⟨s, 0, none⟩) 1 cs) 1 (.slice (some ⟨eb, 0, none⟩) 1 ce)) = w3 at *
  refine (is_nil 4 w3).mono ?_
  rintro e w' ⟨rfl, rfl⟩
  go_wp2_with (first | (refine wpList_load_row rfl 27 (.tmp 2) rfl w.heap.size rfl 27 (MCells 0 0 (.slice (some ⟨s, 0, none⟩) 1 cs) 1 (.slice (some ⟨eb, 0, none⟩) 1 ce)) (0, 0) _ HM3.out Tryz.underlying27 rfl (by kernel_rfl) ?_) | (refine wpList_store_row rfl 27 (.tmp 2) (.tmp 33) rfl w.heap.size (MCells 0 0 (.slice (some ⟨s, 0, none⟩) 1 cs) 1 (.slice (some ⟨eb, 0, none⟩) 1 ce)) rfl rfl 27 _ HM3.out (by kernel_rfl) rfl (by kernel_rfl) ?_))
  rw [setRow_self w3 w.heap.size _ _ _ HM3.out]
  refine bodyPost_ret (v := .tuple #[ManV s cs eb ce, .int .i64 0]) (results_cr_tmp (p := 2) (u := 3) rfl _ _ w.heap.size 27 (MCells 0 0 (.slice (some ⟨s, 0, none⟩) 1 cs) 1 (.slice (some ⟨eb, 0, none⟩) 1 ce)) (0, 0) _ rfl HM3.out Tryz.underlying27 rfl (by kernel_rfl)) rfl ?_
  exact ⟨s, cs, eb, ce, rfl, HMP3.out, HB3.out⟩

end Go.Proofs.YtjmhiklmlgbifaaGreatDoor.PMan
end
section
namespace Go.Proofs.YtjmhiklmlgbifaaGreatDoor.PMan
open Go.RowKit Go.Proofs.YtjmhiklmlgbifaaGreatDoorW.PrintWords Go.Proofs.YtjmhiklmlgbifaaGreatDoorW.PrintLast Go.Proofs.YtjmhiklmlgbifaaGreatDoorW.PrintMore
attribute [local go_sem] max2_int min2_int max_two min_two max_three min_three max_four min_four   -- for this text's walks alone
set_option linter.unusedVariables false
set_option linter.unusedSimpArgs false

theorem exec_load_mid {P : Program} {oi : Oper} {f : Operand → Value} {W : World} (ty : TypeId) (x : Operand) (ho : oi.op = .load ty x) (b o : Nat) (hx : f x = .pointer (some ⟨b, o, none⟩)) (cs : List Value) (d : TypeDesc) (hg : W.rangeAt b o cs)
    (hu : P.underlying ty = some d) (hd : d.isRow = true) (hi : (P.info? ty).map (·.size) = some cs.length) : (execOp f oi).run P W = .ok (.value (.agg cs.toArray)) W := by
  unfold execOp
  simp only [ho, hx, Instr.loadAt, Instr.sureAddr, Sem.run_bind, Sem.run_pure, Result.andThen_ok, run_loadVar_mid W b o ty cs d hg hu hd hi]
theorem ents_neq (W : World) : (binOp .neq 81 (.agg Tryz.zeroCells81) (.agg Tryz.zeroCells81)).run Tryz.prog W = .ok (.bool false) W := by kernel_rfl
set_option maxHeartbeats 4000000 in
set_option maxRecDepth 100000 in
theorem m_same (s cs e ce s' cs' e' ce' : Nat) (w : World) (hM : ManP w s cs e ce) (hM' : ManP w s' cs' e' ce') :
    Calls Tryz.prog 20 #[ManV s cs e ce, ManV s' cs' e' ce'] w fun ev w' => ev = .returned (.bool true) ∧ Below w.heap.size w w' := by
  have HM := Aside0.mk hM
  have HM' := Aside0.mk hM'
  have hne := ents_neq
  clear hM hM'
  unfold ManV
  go_enter Tryz.func20, Tryz.ntmps20
  go_wp2_with fail
  have hb1 : Below w.heap.size w (w.alloc (.cells (MCells 0 0 (.slice (some ⟨s, 0, none⟩) 1 cs) 1 (.slice (some ⟨e, 0, none⟩) 1 ce)) 27)) := below_alloc (Below.refl _ _) _
  have hs1 : (w.alloc (.cells (MCells 0 0 (.slice (some ⟨s, 0, none⟩) 1 cs) 1 (.slice (some ⟨e, 0, none⟩) 1 ce)) 27)).heap.size = w.heap.size + 1 := by simp
  have hx1 := heap_alloc_new w (.cells (MCells 0 0 (.slice (some ⟨s, 0, none⟩) 1 cs) 1 (.slice (some ⟨e, 0, none⟩) 1 ce)) 27)
  have hb2 : Below (w.heap.size + 1) (w.alloc (.cells (MCells 0 0 (.slice (some ⟨s, 0, none⟩) 1 cs) 1 (.slice (some ⟨e, 0, none⟩) 1 ce)) 27)) ((w.alloc (.cells (MCells 0 0 (.slice (some ⟨s, 0, none⟩) 1 cs) 1 (.slice (some ⟨e, 0, none⟩) 1 ce)) 27)).alloc (.cells (MCells 0 0 (.slice (some ⟨s', 0, none⟩) 1 cs') 1 (.slice (some ⟨e', 0, none⟩) 1 ce')) 27)) := hs1 ▸ below_alloc (Below.refl _ _) _
  have hx2 := heap_alloc_new (w.alloc (.cells (MCells 0 0 (.slice (some ⟨s, 0, none⟩) 1 cs) 1 (.slice (some ⟨e, 0, none⟩) 1 ce)) 27)) (.cells (MCells 0 0 (.slice (some ⟨s', 0, none⟩) 1 cs') 1 (.slice (some ⟨e', 0, none⟩) 1 ce')) 27)
  rw [hs1] at hx2
  have hbb : Below w.heap.size w ((w.alloc (.cells (MCells 0 0 (.slice (some ⟨s, 0, none⟩) 1 cs) 1 (.slice (some ⟨e, 0, none⟩) 1 ce)) 27)).alloc (.cells (MCells 0 0 (.slice (some ⟨s', 0, none⟩) 1 cs') 1 (.slice (some ⟨e', 0, none⟩) 1 ce')) 27)) := hb1.trans (hb2.mono (by omega))
  have H1 := Aside0.mk ((hb2.block w.heap.size (by omega)).trans hx1)
  have H2 := Aside0.mk hx2
  have HBB := Aside0.mk hbb
  have HA := Aside0.mk (HM.out.below hbb)
  have HA' := Aside0.mk (HM'.out.below hbb)
  clear hb1 hs1 hx1 hb2 hx2 hbb
  generalize (w.alloc (.cells (MCells 0 0 (.slice (some ⟨s, 0, none⟩) 1 cs) 1 (.slice (some ⟨e, 0, none⟩) 1 ce)) 27)).alloc (.cells (MCells 0 0 (.slice (some ⟨s', 0, none⟩) 1 cs') 1 (.slice (some ⟨e', 0, none⟩) 1 ce')) 27) = W0 at *
  have p0 : W0.cell? ⟨w.heap.size, 0, none⟩ = some (.int .i64 0) := blk_cell H1.out 0
  have q0 : W0.cell? ⟨w.heap.size + 1, 0, none⟩ = some (.int .i64 0) := blk_cell H2.out 0
  have p1 : W0.cell? ⟨w.heap.size, 1, none⟩ = some (.int .i64 0) := blk_cell H1.out 1
  have q1 : W0.cell? ⟨w.heap.size + 1, 1, none⟩ = some (.int .i64 0) := blk_cell H2.out 1
  have p2 : W0.cell? ⟨w.heap.size, 2, none⟩ = some (.slice (some ⟨s, 0, none⟩) 1 cs) := blk_cell H1.out 2
  have q2 : W0.cell? ⟨w.heap.size + 1, 2, none⟩ = some (.slice (some ⟨s', 0, none⟩) 1 cs') := blk_cell H2.out 2
  have p3 : W0.cell? ⟨w.heap.size, 3, none⟩ = some (.int .i64 1) := blk_cell H1.out 3
  have q3 : W0.cell? ⟨w.heap.size + 1, 3, none⟩ = some (.int .i64 1) := blk_cell H2.out 3
  have p4 : W0.cell? ⟨w.heap.size, 4, none⟩ = some (.slice none 0 0) := blk_cell H1.out 4
  have q4 : W0.cell? ⟨w.heap.size + 1, 4, none⟩ = some (.slice none 0 0) := blk_cell H2.out 4
  have p5 : W0.cell? ⟨w.heap.size, 5, none⟩ = some (.slice none 0 0) := blk_cell H1.out 5
  have q5 : W0.cell? ⟨w.heap.size + 1, 5, none⟩ = some (.slice none 0 0) := blk_cell H2.out 5
  have p6 : W0.cell? ⟨w.heap.size, 6, none⟩ = some (.slice (some ⟨e, 0, none⟩) 1 ce) := blk_cell H1.out 6
  have q6 : W0.cell? ⟨w.heap.size + 1, 6, none⟩ = some (.slice (some ⟨e', 0, none⟩) 1 ce') := blk_cell H2.out 6
  refine (estreatref15_SameSchema.calls 5 (some ⟨s, 0, none⟩) cs [⟨1, false, -1⟩] (some ⟨s', 0, none⟩) cs' [⟨1, false, -1⟩] true W0 HA.out.2.2.1 HA.out.1 HA'.out.2.2.1 HA'.out.1 (by decide +kernel)).mono ?_
  rintro ev w1 ⟨rfl, ⟨n1, rfl⟩⟩
  go_wp2_with fail
  refine (estreatref15_SameRows.calls 5 none 0 [] none 0 [] true (W0.drewN n1) ⟨rfl, by decide, fun h => absurd h (by decide)⟩ (Nat.le_refl _) ⟨rfl, by decide, fun h => absurd h (by decide)⟩ (Nat.le_refl _) (by decide +kernel)).mono ?_
  rintro ev w1 ⟨rfl, ⟨n2, rfl⟩⟩
  go_wp2_with fail
  refine wp_loop_rounds 1 ?_
  rw [rounds_succ]
  go_wp2_with fail
  refine wp_loop_rounds 2 ?_
  rw [rounds_succ]
  go_wp2_with fail
  have hE1 := HA.out.2.2.2
  have hE2 := HA'.out.2.2.2
  refine start_ (n := 11) (S := fun w' => w'.cell? ⟨w.heap.size, 6, none⟩ = some (.slice (some ⟨e, 0, none⟩) 1 ce) ∧ w'.cell? ⟨w.heap.size + 1, 6, none⟩ = some (.slice (some ⟨e', 0, none⟩) 1 ce') ∧ w'.rangeAt e 0 Tryz.zeroCells81.toList ∧ w'.rangeAt e' 0 Tryz.zeroCells81.toList) (ds := []) #[false, false, false, false, false, false, false, false, false, false, false] (by kernel_rfl) rfl rfl ⟨p6, q6, hE1, hE2⟩ (fun hHeld => ?_)
  refine pure_ (i := 0) (N := some 119) (v := ?_) (a' := ?_) #[true, false, false, false, false, false, false, false, false, false, false] rfl rfl (by kernel_rfl) (fun _ _ _ h => h) (Or.inl ⟨by rfl, ?_⟩) ?_ ?_
  rotate_left
  · intro w'
    go_simp
    with_reducible rfl
  rotate_left
  · simp only [Act.put, List.setIfInBounds_toArray, List.set_cons_zero, List.set_cons_succ, i64_w, i32_w]
    rfl
  refine pure_ (i := 2) (N := some 121) (v := ?_) (a' := ?_) #[true, false, true, false, false, false, false, false, false, false, false] rfl rfl (by kernel_rfl) (fun _ _ _ h => h) (Or.inl ⟨by rfl, ?_⟩) ?_ ?_
  rotate_left
  · intro w'
    go_simp
    with_reducible rfl
  rotate_left
  · simp only [Act.put, List.setIfInBounds_toArray, List.set_cons_zero, List.set_cons_succ, i64_w, i32_w]
    rfl
  refine pure_ (i := 5) (N := some 124) (v := ?_) (a' := ?_) #[true, false, true, false, false, true, false, false, false, false, false] rfl rfl (by kernel_rfl) (fun _ _ _ h => h) (Or.inl ⟨by rfl, ?_⟩) ?_ ?_
  rotate_left
  · intro w'
    go_simp
    with_reducible rfl
  rotate_left
  · simp only [Act.put, List.setIfInBounds_toArray, List.set_cons_zero, List.set_cons_succ, i64_w, i32_w]
    rfl
  refine pure_ (i := 7) (N := some 126) (v := ?_) (a' := ?_) #[true, false, true, false, false, true, false, true, false, false, false] rfl rfl (by kernel_rfl) (fun _ _ _ h => h) (Or.inl ⟨by rfl, ?_⟩) ?_ ?_
  rotate_left
  · intro w'
    go_simp
    with_reducible rfl
  rotate_left
  · simp only [Act.put, List.setIfInBounds_toArray, List.set_cons_zero, List.set_cons_succ, i64_w, i32_w]
    rfl
  refine take_ (i := 1) (N := some 120) (v := ?_) (a' := ?_) #[true, true, true, false, false, true, false, true, false, false, false] rfl rfl (by kernel_rfl) (fun _ _ _ h => h) (Or.inl ⟨by rfl, ?_⟩) hHeld ?_ ?_
  rotate_left
  · rintro w' ⟨s0, s1, s2, s3⟩
    go_simp
    with_reducible rfl
  rotate_left
  · simp only [Act.put, List.setIfInBounds_toArray, List.set_cons_zero, List.set_cons_succ, i64_w, i32_w]
    rfl
  refine pure_ (i := 3) (N := some 122) (v := ?_) (a' := ?_) #[true, true, true, true, false, true, false, true, false, false, false] rfl rfl (by kernel_rfl) (fun _ _ _ h => h) (Or.inl ⟨by rfl, ?_⟩) ?_ ?_
  rotate_left
  · intro w'
    go_simp
    with_reducible rfl
  rotate_left
  · simp only [Act.put, List.setIfInBounds_toArray, List.set_cons_zero, List.set_cons_succ, i64_w, i32_w]
    rfl
  refine take_ (i := 4) (N := some 123) (v := ?_) (a' := ?_) #[true, true, true, true, true, true, false, true, false, false, false] rfl rfl (by kernel_rfl) (fun _ _ _ h => h) (Or.inl ⟨by rfl, ?_⟩) hHeld ?_ ?_
  rotate_left
  · rintro w' ⟨s0, s1, s2, s3⟩
    show _ = Result.ok (Next.value (.agg Tryz.zeroCells81)) w'
    refine exec_load_mid 81 (.tmp 122) ?_ e 0 ?_ Tryz.zeroCells81.toList _ s2 Tryz.underlying81 rfl ?_
    · rfl
    · rfl
    · kernel_rfl
  rotate_left
  · simp only [Act.put, List.setIfInBounds_toArray, List.set_cons_zero, List.set_cons_succ, i64_w, i32_w]
    rfl
  refine take_ (i := 6) (N := some 125) (v := ?_) (a' := ?_) #[true, true, true, true, true, true, true, true, false, false, false] rfl rfl (by kernel_rfl) (fun _ _ _ h => h) (Or.inl ⟨by rfl, ?_⟩) hHeld ?_ ?_
  rotate_left
  · rintro w' ⟨s0, s1, s2, s3⟩
    go_simp
    with_reducible rfl
  rotate_left
  · simp only [Act.put, List.setIfInBounds_toArray, List.set_cons_zero, List.set_cons_succ, i64_w, i32_w]
    rfl
  refine pure_ (i := 8) (N := some 127) (v := ?_) (a' := ?_) #[true, true, true, true, true, true, true, true, true, false, false] rfl rfl (by kernel_rfl) (fun _ _ _ h => h) (Or.inl ⟨by rfl, ?_⟩) ?_ ?_
  rotate_left
  · intro w'
    go_simp
    with_reducible rfl
  rotate_left
  · simp only [Act.put, List.setIfInBounds_toArray, List.set_cons_zero, List.set_cons_succ, i64_w, i32_w]
    rfl
  refine take_ (i := 9) (N := some 128) (v := ?_) (a' := ?_) #[true, true, true, true, true, true, true, true, true, true, false] rfl rfl (by kernel_rfl) (fun _ _ _ h => h) (Or.inl ⟨by rfl, ?_⟩) hHeld ?_ ?_
  rotate_left
  · rintro w' ⟨s0, s1, s2, s3⟩
    show _ = Result.ok (Next.value (.agg Tryz.zeroCells81)) w'
    refine exec_load_mid 81 (.tmp 127) ?_ e' 0 ?_ Tryz.zeroCells81.toList _ s3 Tryz.underlying81 rfl ?_
    · rfl
    · rfl
    · kernel_rfl
  rotate_left
  · simp only [Act.put, List.setIfInBounds_toArray, List.set_cons_zero, List.set_cons_succ, i64_w, i32_w]
    rfl
  refine pure_ (i := 10) (N := some 129) (v := ?_) (a' := ?_) #[true, true, true, true, true, true, true, true, true, true, true] rfl rfl (by kernel_rfl) (fun _ _ _ h => h) (Or.inl ⟨by rfl, ?_⟩) ?_ ?_
  rotate_left
  · intro w'
    go_simp
    with_reducible rfl
  rotate_left
  · simp only [Act.put, List.setIfInBounds_toArray, List.set_cons_zero, List.set_cons_succ, i64_w, i32_w]
    rfl
  refine done_ (by kernel_rfl) ?_
  clear hE1 hE2
  go_wp2_with fail
  rw [rounds_succ]
  go_wp2_with fail
  go_ret
  exact ⟨rfl, by repeat (first | (with_reducible first | exact HBB.out | apply below_alloc | apply pw_below_drewN | apply below_drew1) | exact HBB.out)⟩

end Go.Proofs.YtjmhiklmlgbifaaGreatDoor.PMan
end
section
namespace Go.Proofs.YtjmhiklmlgbifaaGreatDoor.PMan
open Go.RowKit Go.Proofs.YtjmhiklmlgbifaaGreatDoorW.PrintWords Go.Proofs.YtjmhiklmlgbifaaGreatDoorW.PrintLast Go.Proofs.YtjmhiklmlgbifaaGreatDoorW.PrintMore
attribute [local go_sem] max2_int min2_int max_two min_two max_three min_three max_four min_four   -- for this text's walks alone
set_option linter.unusedVariables false
set_option linter.unusedSimpArgs false

set_option maxHeartbeats 1600000 in
set_option maxRecDepth 100000 in
theorem m_log3 (w : World) : Calls Tryz.prog 15 #[.int .i64 3] w fun e w' => e = .returned (.string ⟨#[108, 111, 103, 45, 51]⟩) ∧ w = w' := by
  go_enter Tryz.func15, Tryz.ntmps15
  go_wp2
  go_ret
  exact ⟨by kernel_rfl, rfl⟩
set_option maxHeartbeats 1600000 in
set_option maxRecDepth 100000 in
theorem m_group12 (w : World) : Calls Tryz.prog 17 #[.int .i64 12] w fun e w' => e = .returned (.string ⟨#[103, 114, 111, 117, 112, 45, 49, 50]⟩) ∧ w = w' := by
  go_enter Tryz.func17, Tryz.ntmps17
  go_wp2
  go_ret
  exact ⟨by kernel_rfl, rfl⟩

def estreatlaw26_awake.f : Option Bool := some true
set_option maxHeartbeats 4000000 in
set_option maxRecDepth 100000 in
theorem m_awake (w : World) (hG : ErrT w) : Calls Tryz.prog 9 #[] w fun ev w' => ev = .returned (.bool true) ∧ Below w.heap.size w w' := by
  have HG := Aside0.mk hG
  clear hG
  go_enter Tryz.func9, Tryz.ntmps9
  go_wp2_with fail
  refine (m_least w).mono ?_
  rintro ev w1 ⟨s1, e1, rfl, hM, hb⟩
  have HM1 := Aside0.mk hM
  have HB1 := Aside0.mk hb
  clear hM hb
  go_wp2_with fail
  refine (m_put s1 1 e1 1 w1 HM1.out).mono ?_
  rintro ev w2 ⟨v, rfl, hr, hb⟩
  obtain ⟨A, c, rfl⟩ := Kd.R_slice hr
  have hrd := Kd.R_reads' hr
  have HRD := Aside0.mk hrd.2.2
  have HCD := Aside0.mk hrd.2.1
  have HB2 := Aside0.mk (below_then HB1.out HB1.out.size hb)
  clear hr hb hrd
  go_wp2_with fail
  refine (m_take A c w2 HRD.out HCD.out (HG.out.of_below HB2.out)).mono ?_
  rintro ev w3 ⟨s, cs, e, ce, rfl, hM, hb⟩
  have HM3 := Aside0.mk hM
  have HB3 := Aside0.mk (below_then HB2.out HB2.out.size hb)
  clear hM hb
  go_wp2_with (refine wpList_store_row rfl 27 (.tmp 3) (.tmp 13) rfl w3.heap.size (MCells 0 0 (.slice (some ⟨s, 0, none⟩) 1 cs) 1 (.slice (some ⟨e, 0, none⟩) 1 ce)) rfl rfl 27 (MCells 0 0 (.slice none 0 0) 0 (.slice none 0 0)) (heap_alloc_new w3 _) (by kernel_rfl) rfl (by kernel_rfl) ?_; rw [World.setRow_alloc_new])
  have hx : (w3.alloc (.cells (MCells 0 0 (.slice (some ⟨s, 0, none⟩) 1 cs) 1 (.slice (some ⟨e, 0, none⟩) 1 ce)) 27)).drew.heap[w3.heap.size]? = some (.cells (MCells 0 0 (.slice (some ⟨s, 0, none⟩) 1 cs) 1 (.slice (some ⟨e, 0, none⟩) 1 ce)) 27 (0, 0)) := heap_alloc_new w3 _
  have hb4 : Below w3.heap.size w3 (w3.alloc (.cells (MCells 0 0 (.slice (some ⟨s, 0, none⟩) 1 cs) 1 (.slice (some ⟨e, 0, none⟩) 1 ce)) 27)).drew := below_drew (below_alloc (Below.refl _ _) _)
  have HX := Aside0.mk hx
  have HB4 := Aside0.mk (below_then HB3.out HB3.out.size hb4)
  have HM4 := Aside0.mk (HM3.out.below hb4)
  clear hb4
  refine start_ (n := 20) (S := fun w' => w'.heap[w3.heap.size]? = some (.cells (MCells 0 0 (.slice (some ⟨s, 0, none⟩) 1 cs) 1 (.slice (some ⟨e, 0, none⟩) 1 ce)) 27 (0, 0))) (ds := []) #[false, false, false, false, false, false, false, false, false, false, false, false, false, false, false, false, false, false, false, false] (by kernel_rfl) rfl rfl (hx) (fun hHeld => ?_)
  generalize (w3.alloc (.cells (MCells 0 0 (.slice (some ⟨s, 0, none⟩) 1 cs) 1 (.slice (some ⟨e, 0, none⟩) 1 ce)) 27)).drew = W4 at *
  refine one_ (i := 0) (N := some 15) #[true, false, false, false, false, false, false, false, false, false, false, false, false, false, false, false, false, false, false, false] rfl rfl (by kernel_rfl) (by decide) (fun K hK => ?_)
  refine goes_ Tryz.func15 (by kernel_rfl) rfl #[.int .i64 3] (by rfl) rfl rfl (by simp only [List.map_toArray, List.map_cons, List.map_nil]; rfl) ?_
  with_reducible refine (m_log3 _).mono ?_
  rintro ev w' ⟨rfl, rfl⟩
  refine ⟨_, rfl, ?_⟩
  refine hK.out _ _ (hx) (fun hHeld => ?_)
  clear hK K
  refine norm_ (a' := ?_) ?_ ?_
  rotate_left
  · show Act.put _ (some 15) _ = _
    simp only [Act.put, List.setIfInBounds_toArray, List.set_cons_zero, List.set_cons_succ, i64_w, i32_w]
    rfl
  refine pure_ (i := 1) (N := some 16) (v := ?_) (a' := ?_) #[true, true, false, false, false, false, false, false, false, false, false, false, false, false, false, false, false, false, false, false] rfl rfl (by kernel_rfl) (fun _ _ _ h => h) (Or.inl ⟨by rfl, ?_⟩) ?_ ?_
  rotate_left
  · intro w'
    go_simp
    with_reducible rfl
  rotate_left
  · simp only [Act.put, List.setIfInBounds_toArray, List.set_cons_zero, List.set_cons_succ, i64_w, i32_w]
    rfl
  refine pure_ (i := 2) (N := some 17) (v := ?_) (a' := ?_) #[true, true, true, false, false, false, false, false, false, false, false, false, false, false, false, false, false, false, false, false] rfl rfl (by kernel_rfl) (fun _ _ _ h => h) (Or.inl ⟨by rfl, ?_⟩) ?_ ?_
  rotate_left
  · intro w'
    go_simp
    with_reducible rfl
  rotate_left
  · simp only [Act.put, List.setIfInBounds_toArray, List.set_cons_zero, List.set_cons_succ, i64_w, i32_w]
    rfl
  refine one_ (i := 3) (N := some 18) #[true, true, true, true, false, false, false, false, false, false, false, false, false, false, false, false, false, false, false, false] rfl rfl (by kernel_rfl) (by decide) (fun K hK => ?_)
  refine goes_ Tryz.func17 (by kernel_rfl) rfl #[.int .i64 12] (by rfl) rfl rfl (by simp only [List.map_toArray, List.map_cons, List.map_nil]; rfl) ?_
  with_reducible refine (m_group12 _).mono ?_
  rintro ev w' ⟨rfl, rfl⟩
  refine ⟨_, rfl, ?_⟩
  refine hK.out _ _ (hx) (fun hHeld => ?_)
  clear hK K
  refine norm_ (a' := ?_) ?_ ?_
  rotate_left
  · show Act.put _ (some 18) _ = _
    simp only [Act.put, List.setIfInBounds_toArray, List.set_cons_zero, List.set_cons_succ, i64_w, i32_w]
    rfl
  refine pure_ (i := 4) (N := some 19) (v := ?_) (a' := ?_) #[true, true, true, true, true, false, false, false, false, false, false, false, false, false, false, false, false, false, false, false] rfl rfl (by kernel_rfl) (fun _ _ _ h => h) (Or.inl ⟨by rfl, ?_⟩) ?_ ?_
  rotate_left
  · intro w'
    go_simp
    with_reducible rfl
  rotate_left
  · simp only [Act.put, List.setIfInBounds_toArray, List.set_cons_zero, List.set_cons_succ, i64_w, i32_w]
    rfl
  refine pure_ (i := 5) (N := some 20) (v := ?_) (a' := ?_) #[true, true, true, true, true, true, false, false, false, false, false, false, false, false, false, false, false, false, false, false] rfl rfl (by kernel_rfl) (fun _ _ _ h => h) (Or.inl ⟨by rfl, ?_⟩) ?_ ?_
  rotate_left
  · intro w'
    go_simp
    with_reducible rfl
  rotate_left
  · simp only [Act.put, List.setIfInBounds_toArray, List.set_cons_zero, List.set_cons_succ, i64_w, i32_w]
    rfl
  refine pure_ (i := 6) (N := some 21) (v := ?_) (a' := ?_) #[true, true, true, true, true, true, true, false, false, false, false, false, false, false, false, false, false, false, false, false] rfl rfl (by kernel_rfl) (fun _ _ _ h => h) (Or.inl ⟨by rfl, ?_⟩) ?_ ?_
  rotate_left
  · intro w'
    go_simp
    with_reducible rfl
  rotate_left
  · simp only [Act.put, List.setIfInBounds_toArray, List.set_cons_zero, List.set_cons_succ, i64_w, i32_w]
    rfl
  refine pure_ (i := 7) (N := some 22) (v := ?_) (a' := ?_) #[true, true, true, true, true, true, true, true, false, false, false, false, false, false, false, false, false, false, false, false] rfl rfl (by kernel_rfl) (fun _ _ _ h => h) (Or.inl ⟨by rfl, ?_⟩) ?_ ?_
  rotate_left
  · intro w'
    go_simp
    with_reducible rfl
  rotate_left
  · simp only [Act.put, List.setIfInBounds_toArray, List.set_cons_zero, List.set_cons_succ, i64_w, i32_w]
    rfl
  refine pure_ (i := 8) (N := some 23) (v := ?_) (a' := ?_) #[true, true, true, true, true, true, true, true, true, false, false, false, false, false, false, false, false, false, false, false] rfl rfl (by kernel_rfl) (fun _ _ _ h => h) (Or.inl ⟨by rfl, ?_⟩) ?_ ?_
  rotate_left
  · intro w'
    go_simp
    with_reducible rfl
  rotate_left
  · simp only [Act.put, List.setIfInBounds_toArray, List.set_cons_zero, List.set_cons_succ, i64_w, i32_w]
    rfl
  refine pure_ (i := 9) (N := some 24) (v := ?_) (a' := ?_) #[true, true, true, true, true, true, true, true, true, true, false, false, false, false, false, false, false, false, false, false] rfl rfl (by kernel_rfl) (fun _ _ _ h => h) (Or.inl ⟨by rfl, ?_⟩) ?_ ?_
  rotate_left
  · intro w'
    go_simp
    with_reducible rfl
  rotate_left
  · simp only [Act.put, List.setIfInBounds_toArray, List.set_cons_zero, List.set_cons_succ, i64_w, i32_w]
    rfl
  refine pure_ (i := 10) (N := some 25) (v := ?_) (a' := ?_) #[true, true, true, true, true, true, true, true, true, true, true, false, false, false, false, false, false, false, false, false] rfl rfl (by kernel_rfl) (fun _ _ _ h => h) (Or.inl ⟨by rfl, ?_⟩) ?_ ?_
  rotate_left
  · intro w'
    go_simp
    with_reducible rfl
  rotate_left
  · simp only [Act.put, List.setIfInBounds_toArray, List.set_cons_zero, List.set_cons_succ, i64_w, i32_w]
    rfl
  refine pure_ (i := 11) (N := some 26) (v := ?_) (a' := ?_) #[true, true, true, true, true, true, true, true, true, true, true, true, false, false, false, false, false, false, false, false] rfl rfl (by kernel_rfl) (fun _ _ _ h => h) (Or.inl ⟨by rfl, ?_⟩) ?_ ?_
  rotate_left
  · intro w'
    go_simp
    with_reducible rfl
  rotate_left
  · simp only [Act.put, List.setIfInBounds_toArray, List.set_cons_zero, List.set_cons_succ, i64_w, i32_w]
    rfl
  refine pure_ (i := 12) (N := some 27) (v := ?_) (a' := ?_) #[true, true, true, true, true, true, true, true, true, true, true, true, true, false, false, false, false, false, false, false] rfl rfl (by kernel_rfl) (fun _ _ _ h => h) (Or.inl ⟨by rfl, ?_⟩) ?_ ?_
  rotate_left
  · intro w'
    go_simp
    with_reducible rfl
  rotate_left
  · simp only [Act.put, List.setIfInBounds_toArray, List.set_cons_zero, List.set_cons_succ, i64_w, i32_w]
    rfl
  refine pure_ (i := 13) (N := some 28) (v := ?_) (a' := ?_) #[true, true, true, true, true, true, true, true, true, true, true, true, true, true, false, false, false, false, false, false] rfl rfl (by kernel_rfl) (fun _ _ _ h => h) (Or.inl ⟨by rfl, ?_⟩) ?_ ?_
  rotate_left
  · intro w'
    go_simp
    with_reducible rfl
  rotate_left
  · simp only [Act.put, List.setIfInBounds_toArray, List.set_cons_zero, List.set_cons_succ, i64_w, i32_w]
    rfl
  refine pure_ (i := 14) (N := some 29) (v := ?_) (a' := ?_) #[true, true, true, true, true, true, true, true, true, true, true, true, true, true, true, false, false, false, false, false] rfl rfl (by kernel_rfl) (fun _ _ _ h => h) (Or.inl ⟨by rfl, ?_⟩) ?_ ?_
  rotate_left
  · intro w'
    go_simp
    with_reducible rfl
  rotate_left
  · simp only [Act.put, List.setIfInBounds_toArray, List.set_cons_zero, List.set_cons_succ, i64_w, i32_w]
    rfl
  refine take_ (i := 15) (N := some 30) (v := ?_) (a' := ?_) #[true, true, true, true, true, true, true, true, true, true, true, true, true, true, true, true, false, false, false, false] rfl rfl (by kernel_rfl) (fun _ _ _ h => h) (Or.inl ⟨by rfl, ?_⟩) hHeld ?_ ?_
  rotate_left
  · intro w' s0
    refine exec_load 27 (.tmp 3) ?_ w3.heap.size ?_ 27 (MCells 0 0 (.slice (some ⟨s, 0, none⟩) 1 cs) 1 (.slice (some ⟨e, 0, none⟩) 1 ce)) (0, 0) _ s0 Tryz.underlying27 rfl ?_
    · rfl
    · rfl
    · kernel_rfl
  rotate_left
  · simp only [Act.put, List.setIfInBounds_toArray, List.set_cons_zero, List.set_cons_succ, i64_w, i32_w]
    rfl
  refine one_ (i := 16) (N := some 31) #[true, true, true, true, true, true, true, true, true, true, true, true, true, true, true, true, true, false, false, false] rfl rfl (by kernel_rfl) (by decide) (fun K hK => ?_)
  refine goes_ Tryz.func28 (by kernel_rfl) rfl #[] (by rfl) rfl rfl (by simp) ?_
  with_reducible refine (m_least W4).mono ?_
  rintro ev w5 ⟨s2, e2, rfl, hM2, hb5⟩
  refine ⟨_, rfl, ?_⟩
  have HM2 := Aside0.mk hM2
  have HB5 := Aside0.mk hb5
  have hx := (hb5.block _ (blk_lt HX.out)).trans HX.out
  clear hM2 hb5
  refine hK.out _ _ (hx) (fun hHeld => ?_)
  clear hK K
  refine norm_ (a' := ?_) ?_ ?_
  rotate_left
  · show Act.put _ (some 31) _ = _
    simp only [Act.put, List.setIfInBounds_toArray, List.set_cons_zero, List.set_cons_succ, i64_w, i32_w]
    rfl
  refine one_ (i := 17) (N := some 32) #[true, true, true, true, true, true, true, true, true, true, true, true, true, true, true, true, true, true, false, false] rfl rfl (by kernel_rfl) (by decide) (fun K hK => ?_)
  refine goes_ Tryz.func20 (by kernel_rfl) rfl #[ManV s cs e ce, ManV s2 1 e2 1] (by rfl) rfl rfl (by simp only [List.map_toArray, List.map_cons, List.map_nil]; rfl) ?_
  with_reducible refine (m_same s cs e ce s2 1 e2 1 w5 (HM4.out.below HB5.out) HM2.out).mono ?_
  rintro ev w6 ⟨rfl, hb6⟩
  refine ⟨_, rfl, ?_⟩
  have HB6 := Aside0.mk hb6
  clear hb6
  refine hK.out _ _ ((HB6.out.block _ (blk_lt hx)).trans hx) (fun hHeld => ?_)
  clear hK K
  refine norm_ (a' := ?_) ?_ ?_
  rotate_left
  · show Act.put _ (some 32) _ = _
    simp only [Act.put, List.setIfInBounds_toArray, List.set_cons_zero, List.set_cons_succ, i64_w, i32_w]
    rfl
  refine pure_ (i := 18) (N := some 33) (v := ?_) (a' := ?_) #[true, true, true, true, true, true, true, true, true, true, true, true, true, true, true, true, true, true, true, false] rfl rfl (by kernel_rfl) (fun _ _ _ h => h) (Or.inl ⟨by rfl, ?_⟩) ?_ ?_
  rotate_left
  · intro w'
    go_simp
    with_reducible rfl
  rotate_left
  · simp only [Act.put, List.setIfInBounds_toArray, List.set_cons_zero, List.set_cons_succ, i64_w, i32_w]
    rfl
  refine pure_ (i := 19) (N := some 0) (v := ?_) (a' := ?_) #[true, true, true, true, true, true, true, true, true, true, true, true, true, true, true, true, true, true, true, true] rfl rfl (by kernel_rfl) (fun _ _ _ h => h) (Or.inl ⟨by rfl, ?_⟩) ?_ ?_
  rotate_left
  · intro w'
    go_simp
    with_reducible rfl
  rotate_left
  · simp only [Act.put, List.setIfInBounds_toArray, List.set_cons_zero, List.set_cons_succ, i64_w, i32_w]
    rfl
  refine done_ (by kernel_rfl) ?_
  go_wp2
  go_ret
  exact ⟨rfl, below_then (below_then HB4.out HB4.out.size HB5.out) (Nat.le_trans HB4.out.size HB5.out.size) HB6.out⟩
theorem estreatlaw26_awake.calls (r : Bool) (w : World) (hG : ErrT w) (h : estreatlaw26_awake.f = some r) :
    Calls Tryz.prog 9 #[] w fun e w' => e = .returned (.bool r) ∧ Below w.heap.size w w' := by
  obtain rfl := Option.some.inj h
  exact m_awake w hG

end Go.Proofs.YtjmhiklmlgbifaaGreatDoor.PMan
end
section
/- strconv.Itoa at every whole number, and the names that are made of it: the contracts of the manifest's names, where the listed tables read as they are laid. -/
namespace Go.Proofs.YtjmhiklmlgbifaaGreatDoor.PMan
open Go.RowKit Go.Proofs.YtjmhiklmlgbifaaGreatDoorW.PrintWords Go.Proofs.YtjmhiklmlgbifaaGreatDoorW.PrintLast Go.Proofs.YtjmhiklmlgbifaaGreatDoorW.PrintMore
set_option linter.unusedVariables false
set_option linter.unusedSimpArgs false

def laysM171_ren : Go.Shelf.Ren := ⟨fun | 171 => 52 | 243 => 85 | 246 => 115 | 283 => 134 | 284 => 135 | 285 => 136 | 286 => 137 | 129 => 147 | 317 => 146 | 318 => 148 | 319 => 149 | 320 => 150 | 337 => 156 | 338 => 157 | n => n, fun | 3 => 3 | 9 => 9 | 2 => 2 | 4 => 4 | 171 => 206 | 0 => 0 | 53 => 75 | 37 => 30 | 5 => 5 | 173 => 209 | 212 => 225 | 51 => 127 | 20 => 20 | 213 => 226 | 46 => 124 | 232 => 60 | 233 => 237 | n => n, fun | 17 => 1 | 18 => 2 | 19 => 3 | n => n⟩
theorem laysM171 : Go.Proofs.LaysM.n171 Tryz.prog laysM171_ren := {
  mixed := by kernel_rfl,
  f129 := Tryz.func147.trans (congrArg some (by kernel_rfl)),
  f171 := Tryz.func52.trans (congrArg some (by kernel_rfl)),
  f243 := Tryz.func85.trans (congrArg some (by kernel_rfl)),
  f246 := Tryz.func115.trans (congrArg some (by kernel_rfl)),
  f283 := Tryz.func134.trans (congrArg some (by kernel_rfl)),
  f284 := Tryz.func135.trans (congrArg some (by kernel_rfl)),
  f285 := Tryz.func136.trans (congrArg some (by kernel_rfl)),
  f286 := Tryz.func137.trans (congrArg some (by kernel_rfl)),
  f317 := Tryz.func146.trans (congrArg some (by kernel_rfl)),
  f318 := Tryz.func148.trans (congrArg some (by kernel_rfl)),
  f319 := Tryz.func149.trans (congrArg some (by kernel_rfl)),
  f320 := Tryz.func150.trans (congrArg some (by kernel_rfl)),
  f337 := Tryz.func156.trans (congrArg some (by kernel_rfl)),
  f338 := Tryz.func157.trans (congrArg some (by kernel_rfl)),
  t0 := Tryz.underlying0,
  a0 := Tryz.isAgg0,
  z0 := Tryz.sizeOf0,
  v0 := Tryz.zeroValue0,
  t2 := Tryz.underlying2,
  a2 := Tryz.isAgg2,
  z2 := Tryz.sizeOf2,
  v2 := Tryz.zeroValue2,
  t3 := Tryz.underlying3,
  a3 := Tryz.isAgg3,
  z3 := Tryz.sizeOf3,
  v3 := Tryz.zeroValue3,
  t4 := Tryz.underlying4,
  a4 := Tryz.isAgg4,
  z4 := Tryz.sizeOf4,
  v4 := Tryz.zeroValue4,
  t5 := Tryz.underlying5,
  a5 := Tryz.isAgg5,
  z5 := Tryz.sizeOf5,
  v5 := Tryz.zeroValue5,
  t9 := Tryz.underlying9,
  a9 := Tryz.isAgg9,
  z9 := Tryz.sizeOf9,
  v9 := Tryz.zeroValue9,
  t20 := Tryz.underlying20,
  a20 := Tryz.isAgg20,
  z20 := Tryz.sizeOf20,
  v20 := Tryz.zeroValue20,
  t37 := Tryz.underlying30,
  a37 := Tryz.isAgg30,
  z37 := Tryz.sizeOf30,
  v37 := Tryz.zeroValue30,
  t46 := Tryz.underlying124,
  a46 := Tryz.isAgg124,
  z46 := Tryz.sizeOf124,
  v46 := Tryz.zeroValue124,
  t51 := Tryz.underlying127,
  a51 := Tryz.isAgg127,
  z51 := Tryz.sizeOf127,
  v51 := Tryz.zeroValue127,
  t53 := Tryz.underlying75,
  a53 := Tryz.isAgg75,
  z53 := Tryz.sizeOf75,
  v53 := Tryz.zeroValue75,
  t171 := Tryz.underlying206,
  a171 := Tryz.isAgg206,
  z171 := Tryz.sizeOf206,
  v171 := Tryz.zeroValue206,
  t173 := Tryz.underlying209,
  a173 := Tryz.isAgg209,
  z173 := Tryz.sizeOf209,
  v173 := Tryz.zeroValue209,
  t212 := Tryz.underlying225,
  a212 := Tryz.isAgg225,
  z212 := Tryz.sizeOf225,
  v212 := Tryz.zeroValue225,
  t213 := Tryz.underlying226,
  a213 := Tryz.isAgg226,
  z213 := Tryz.sizeOf226,
  t232 := Tryz.underlying60,
  a232 := Tryz.isAgg60,
  z232 := Tryz.sizeOf60,
  v232 := Tryz.zeroValue60,
  t233 := Tryz.underlying237,
  a233 := Tryz.isAgg237,
  z233 := Tryz.sizeOf237,
  v233 := Tryz.zeroValue237,
  g17 := by kernel_rfl,
  g18 := by kernel_rfl,
  g19 := by kernel_rfl,
  i0 := by kernel_rfl,
  i2 := by kernel_rfl,
  i3 := by kernel_rfl,
  i4 := by kernel_rfl,
  i5 := by kernel_rfl,
  i9 := by kernel_rfl,
  i20 := by kernel_rfl,
  i37 := by kernel_rfl,
  i46 := by kernel_rfl,
  i51 := by kernel_rfl,
  i53 := by kernel_rfl,
  i171 := by kernel_rfl,
  i173 := by kernel_rfl,
  i212 := by kernel_rfl,
  i232 := by kernel_rfl,
  i233 := by kernel_rfl,
  m17 := by kernel_rfl,
  m18 := by kernel_rfl,
  m19 := by kernel_rfl }

/-- What the law asks of the world: both variables are as they were laid. -/
structure NamT (w : World) : Prop where
  err : ErrT w
  tab : Lib.TabIs Tryz.prog w "internal/strconv.uint64pow10" .u64 Lib.pow10Tab
theorem NamT.of_below {w W : World} (h : NamT w) (hb : Below w.heap.size w W) : NamT W :=
  ⟨ErrT.of_below h.err hb, Lib.tabBelow_of_tabIs h.tab W hb⟩
theorem n_awake.calls (r : Bool) (w : World) (hG : NamT w) (h : estreatlaw26_awake.f = some r) :
    Calls Tryz.prog 9 #[] w fun e w' => e = .returned (.bool r) ∧ Below w.heap.size w w' := estreatlaw26_awake.calls r w hG.err h
theorem n_itoa (n : Int) (h0 : -9223372036854775808 ≤ n) (h1 : n ≤ 9223372036854775807) (w : World) (hG : NamT w) :
    Calls Tryz.prog 52 #[.int .i64 n] w fun e w' => e = .returned (.string ⟨(Lib.itoa n).toArray⟩) ∧ Below w.heap.size w w' := by
  refine (Any.strconv_Itoa laysM171 n h0 h1 w hG.tab).mono ?_
  rintro e w' ⟨rfl, k, os, rfl⟩
  exact ⟨rfl, Lib.below_grow _ w (Nat.le_refl _) k os⟩
/-- The name that a whole number has. -/
def manifest_LogName.f (a0 : Int) : Option ByteArray := if -9223372036854775808 ≤ a0 ∧ a0 ≤ 9223372036854775807 then some (⟨#[108, 111, 103, 45]⟩ ++ ⟨(Lib.itoa a0).toArray⟩) else none
set_option maxHeartbeats 1600000 in
set_option maxRecDepth 100000 in
theorem manifest_LogName.calls (a0 : Int) (r : ByteArray) (w : World) (hG : NamT w) (h : manifest_LogName.f a0 = some r) :
    Calls Tryz.prog 15 #[.int .i64 a0] w fun e w' => e = .returned (.string r) ∧ Below w.heap.size w w' := by
  unfold manifest_LogName.f at h
  split at h
  · rename_i hn
    obtain rfl := Option.some.inj h
    clear h
    go_enter Tryz.func15, Tryz.ntmps15
    go_wp2_with (go_at_call 52; refine (n_itoa a0 hn.1 hn.2 _ hG).mono ?_; rintro e w1 ⟨rfl, hb⟩)
    · have hl := Lib.itoa_length_le a0 hn.1 hn.2
      omega
    · go_ret
      exact ⟨rfl, hb⟩
  · cases h
/-- The name that a whole number has. -/
def manifest_GroupName.f (a0 : Int) : Option ByteArray := if -9223372036854775808 ≤ a0 ∧ a0 ≤ 9223372036854775807 then some (⟨#[103, 114, 111, 117, 112, 45]⟩ ++ ⟨(Lib.itoa a0).toArray⟩) else none
set_option maxHeartbeats 1600000 in
set_option maxRecDepth 100000 in
theorem manifest_GroupName.calls (a0 : Int) (r : ByteArray) (w : World) (hG : NamT w) (h : manifest_GroupName.f a0 = some r) :
    Calls Tryz.prog 17 #[.int .i64 a0] w fun e w' => e = .returned (.string r) ∧ Below w.heap.size w w' := by
  unfold manifest_GroupName.f at h
  split at h
  · rename_i hn
    obtain rfl := Option.some.inj h
    clear h
    go_enter Tryz.func17, Tryz.ntmps17
    go_wp2_with (go_at_call 52; refine (n_itoa a0 hn.1 hn.2 _ hG).mono ?_; rintro e w1 ⟨rfl, hb⟩)
    · have hl := Lib.itoa_length_le a0 hn.1 hn.2
      omega
    · go_ret
      exact ⟨rfl, hb⟩
  · cases h
end Go.Proofs.YtjmhiklmlgbifaaGreatDoor.PMan
end
section
-- Printed for this claim by a program of this session's own (it runs the kit's print another way): Lean checks it.
namespace Go.Proofs.YtjmhiklmlgbifaaGreatDoor.PMan
open Go.RowKit Go.Proofs.YtjmhiklmlgbifaaGreatDoorW.PrintWords Go.Proofs.YtjmhiklmlgbifaaGreatDoorW.PrintLast Go.Proofs.YtjmhiklmlgbifaaGreatDoorW.PrintMore
attribute [local go_sem] max2_int min2_int max_two min_two max_three min_three max_four min_four   -- for this text's walks alone
set_option linter.unusedVariables false
set_option linter.unusedSimpArgs false

/-! ### estreatlaw26_ManifestNames: function 6 -/
mutual
def estreatlaw26_ManifestNames.j0 : Nat → Int → Int → Bool → Option (Bool)
  | 0, _, _, _ => none
  | k + 1, x0, x1, x14 => if x14 = true then ((estreatlaw26_awake.f).bind fun t172 => (some t172)) else ((manifest_LogName.f x0).bind fun t173 => ((manifest_LogName.f x1).bind fun t174 => ((manifest_GroupName.f x0).bind fun t175 => ((manifest_GroupName.f x1).bind fun t176 => (estreatlaw26_ManifestNames.l0 k x0 x1 (([t173, t174, t175, t176, (⟨#[109, 97, 110, 105, 102, 101, 115, 116]⟩ : ByteArray), (⟨#[109, 97, 110, 105, 102, 101, 115, 116, 46, 110, 101, 119]⟩ : ByteArray)] : List ByteArray)) 0)))))
def estreatlaw26_ManifestNames.l0 : Nat → Int → Int → List ByteArray → Int → Option (Bool)
  | 0, _, _, _, _ => none
  | k + 1, x0, x1, x5, x6 => if x6 < (x5.length : Int) then (estreatlaw26_ManifestNames.l1 k x0 x1 x5 x6 0) else ((estreatlaw26_awake.f).bind fun t180 => (some t180))
def estreatlaw26_ManifestNames.l1 : Nat → Int → Int → List ByteArray → Int → Int → Option (Bool)
  | 0, _, _, _, _, _ => none
  | k + 1, x0, x1, x5, x6, x7 => if x7 < x6 then (if x0 = x1 then (if x6 = 1 then (if x7 = 0 then (if 0 ≤ x6 then (if x6 < (x5.length : Int) then (if 0 ≤ x7 then (if x7 < (x5.length : Int) then (if (((rdOf ByteArray.empty x5 x6).toList == (rdOf ByteArray.empty x5 x7).toList) != true) = true then (some false) else (estreatlaw26_ManifestNames.l1 k x0 x1 x5 x6 (wrap64 (x7 + 1)))) else (none)) else (none)) else (none)) else (none)) else (if x6 = 3 then (if 0 ≤ x6 then (if x6 < (x5.length : Int) then (if 0 ≤ x7 then (if x7 < (x5.length : Int) then (if (((rdOf ByteArray.empty x5 x6).toList == (rdOf ByteArray.empty x5 x7).toList) != (x7 == 2)) = true then (some false) else (estreatlaw26_ManifestNames.l1 k x0 x1 x5 x6 (wrap64 (x7 + 1)))) else (none)) else (none)) else (none)) else (none)) else (if 0 ≤ x6 then (if x6 < (x5.length : Int) then (if 0 ≤ x7 then (if x7 < (x5.length : Int) then (if (((rdOf ByteArray.empty x5 x6).toList == (rdOf ByteArray.empty x5 x7).toList) != false) = true then (some false) else (estreatlaw26_ManifestNames.l1 k x0 x1 x5 x6 (wrap64 (x7 + 1)))) else (none)) else (none)) else (none)) else (none)))) else (if x6 = 3 then (if 0 ≤ x6 then (if x6 < (x5.length : Int) then (if 0 ≤ x7 then (if x7 < (x5.length : Int) then (if (((rdOf ByteArray.empty x5 x6).toList == (rdOf ByteArray.empty x5 x7).toList) != (x7 == 2)) = true then (some false) else (estreatlaw26_ManifestNames.l1 k x0 x1 x5 x6 (wrap64 (x7 + 1)))) else (none)) else (none)) else (none)) else (none)) else (if 0 ≤ x6 then (if x6 < (x5.length : Int) then (if 0 ≤ x7 then (if x7 < (x5.length : Int) then (if (((rdOf ByteArray.empty x5 x6).toList == (rdOf ByteArray.empty x5 x7).toList) != false) = true then (some false) else (estreatlaw26_ManifestNames.l1 k x0 x1 x5 x6 (wrap64 (x7 + 1)))) else (none)) else (none)) else (none)) else (none)))) else (if 0 ≤ x6 then (if x6 < (x5.length : Int) then (if 0 ≤ x7 then (if x7 < (x5.length : Int) then (if (((rdOf ByteArray.empty x5 x6).toList == (rdOf ByteArray.empty x5 x7).toList) != false) = true then (some false) else (estreatlaw26_ManifestNames.l1 k x0 x1 x5 x6 (wrap64 (x7 + 1)))) else (none)) else (none)) else (none)) else (none))) else (if 0 ≤ x6 then (if x6 < (x5.length : Int) then (if ((rdOf ByteArray.empty x5 x6).size : Int) < 1 then (some false) else (if ((rdOf ByteArray.empty x5 x6).size : Int) > 32 then (some false) else (estreatlaw26_ManifestNames.l0 k x0 x1 x5 (wrap64 (x6 + 1))))) else (none)) else (none))
end
def estreatlaw26_ManifestNames.f (k : Nat) (a0 : Int) (a1 : Int) : Option (Bool) := if a0 < 0 then (estreatlaw26_ManifestNames.j0 k a0 a1 true) else (estreatlaw26_ManifestNames.j0 k a0 a1 (decide (a1 < 0)))
theorem estreatlaw26_ManifestNames.mono_l : ∀ k, (∀ y0 y1 y2, LeO (estreatlaw26_ManifestNames.j0 k y0 y1 y2) (estreatlaw26_ManifestNames.j0 (k + 1) y0 y1 y2)) ∧ (∀ y0 y1 y2 y3, LeO (estreatlaw26_ManifestNames.l0 k y0 y1 y2 y3) (estreatlaw26_ManifestNames.l0 (k + 1) y0 y1 y2 y3)) ∧ (∀ y0 y1 y2 y3 y4, LeO (estreatlaw26_ManifestNames.l1 k y0 y1 y2 y3 y4) (estreatlaw26_ManifestNames.l1 (k + 1) y0 y1 y2 y3 y4))
  | 0 => ⟨fun _ _ _ r h => by simp [estreatlaw26_ManifestNames.j0] at h, fun _ _ _ _ r h => by simp [estreatlaw26_ManifestNames.l0] at h, fun _ _ _ _ _ r h => by simp [estreatlaw26_ManifestNames.l1] at h⟩
  | k + 1 => by
    obtain ⟨ih0, ih1, ih2⟩ := estreatlaw26_ManifestNames.mono_l k
    refine ⟨?_, ?_, ?_⟩
    · intro y0 y1 y2
      unfold estreatlaw26_ManifestNames.j0
      repeat' first
      | (with_reducible exact ih0 _ _ _)
      | (with_reducible exact ih1 _ _ _ _)
      | (with_reducible exact ih2 _ _ _ _ _)
      | (with_reducible exact LeO.refl _)
      | (with_reducible exact LeO.none _)
      | (with_reducible refine LeO.ite ?_ ?_)
      | (with_reducible refine LeO.bind ?_ (fun _ => ?_))
      | exact ih0 _ _ _
      | exact ih1 _ _ _ _
      | exact ih2 _ _ _ _ _
      | exact LeO.none _
      | refine LeO.ite ?_ ?_
      | refine LeO.bind ?_ (fun _ => ?_)
    · intro y0 y1 y2 y3
      unfold estreatlaw26_ManifestNames.l0
      repeat' first
      | (with_reducible exact ih0 _ _ _)
      | (with_reducible exact ih1 _ _ _ _)
      | (with_reducible exact ih2 _ _ _ _ _)
      | (with_reducible exact LeO.refl _)
      | (with_reducible exact LeO.none _)
      | (with_reducible refine LeO.ite ?_ ?_)
      | (with_reducible refine LeO.bind ?_ (fun _ => ?_))
      | exact ih0 _ _ _
      | exact ih1 _ _ _ _
      | exact ih2 _ _ _ _ _
      | exact LeO.none _
      | refine LeO.ite ?_ ?_
      | refine LeO.bind ?_ (fun _ => ?_)
    · intro y0 y1 y2 y3 y4
      unfold estreatlaw26_ManifestNames.l1
      repeat' first
      | (with_reducible exact ih0 _ _ _)
      | (with_reducible exact ih1 _ _ _ _)
      | (with_reducible exact ih2 _ _ _ _ _)
      | (with_reducible exact LeO.refl _)
      | (with_reducible exact LeO.none _)
      | (with_reducible refine LeO.ite ?_ ?_)
      | (with_reducible refine LeO.bind ?_ (fun _ => ?_))
      | exact ih0 _ _ _
      | exact ih1 _ _ _ _
      | exact ih2 _ _ _ _ _
      | exact LeO.none _
      | refine LeO.ite ?_ ?_
      | refine LeO.bind ?_ (fun _ => ?_)
theorem estreatlaw26_ManifestNames.mono : ∀ a0 a1 k, LeO (estreatlaw26_ManifestNames.f k a0 a1) (estreatlaw26_ManifestNames.f (k + 1) a0 a1) := by
  intro a0 a1 k
  obtain ⟨ih0, ih1, ih2⟩ := estreatlaw26_ManifestNames.mono_l k
  unfold estreatlaw26_ManifestNames.f
  repeat' first
      | (with_reducible exact ih0 _ _ _)
      | (with_reducible exact ih1 _ _ _ _)
      | (with_reducible exact ih2 _ _ _ _ _)
      | (with_reducible exact LeO.refl _)
      | (with_reducible exact LeO.none _)
      | (with_reducible refine LeO.ite ?_ ?_)
      | (with_reducible refine LeO.bind ?_ (fun _ => ?_))
      | exact ih0 _ _ _
      | exact ih1 _ _ _ _
      | exact ih2 _ _ _ _ _
      | exact LeO.none _
      | refine LeO.ite ?_ ?_
      | refine LeO.bind ?_ (fun _ => ?_)
set_option maxHeartbeats 8000000 in
set_option maxRecDepth 100000 in
theorem estreatlaw26_ManifestNames.calls (k : Nat) (a0 : Int) (a1 : Int) (r : Bool) (w : World) (hG : NamT w) (h : estreatlaw26_ManifestNames.f k a0 a1 = some r) :
    Calls Tryz.prog 6 #[.int .i64 a0, .int .i64 a1] w fun e w' => e = .returned (.bool r) ∧ Below w.heap.size w w' := by
  have HB := Aside0.mk (Below.refl w.heap.size w)
  have HG := Aside0.mk hG
  clear hG
  have H : (if a0 < 0 then (estreatlaw26_ManifestNames.j0 k a0 a1 true) else (estreatlaw26_ManifestNames.j0 k a0 a1 (decide (a1 < 0)))) = some r := h
  clear h
  have HC3 := Aside0.mk H
  clear H
  go_enter Tryz.func6, Tryz.ntmps6
  go_upto_region 1 with (fail)
  repeat (go_quiet (fail); go_upto_region 1 with (fail))
  go_cut [14] (fun v14 wc => ∃ (kq : Nat) (x14_2 : Bool), v14 = .bool x14_2 ∧ Aside0 (estreatlaw26_ManifestNames.j0 kq a0 a1 x14_2 = some r) ∧ Aside0 (kq ≤ k) ∧ Aside0 (Below w.heap.size w wc))
  case first =>
    have H := HC3.out
    clear HC3
    by_cases c4 : a0 < 0
    · rw [if_pos c4] at H
      have c4b0 : decide (a0 < 0) = true := decide_eq_true c4
      clear c4
      (first | rw [c4b0] | (simp only [i64_w, i32_w]; rw [c4b0]) | skip)
      have H' := Aside0.mk H
      clear H
      go_wp2
      repeat (go_quiet (fail); try go_wp2)
      go_meet
      case rel => exact ⟨_, (true), (by first | rfl | (simp; done) | (simp [*]; done)), H', ⟨by first | omega | exact Nat.le_refl _⟩, ⟨by repeat (first | (with_reducible first | exact HB.out | apply below_alloc | apply pw_below_drewN | apply below_drew1) | exact HB.out)⟩⟩
    · rw [if_neg c4] at H
      have c4b0 : decide (a0 < 0) = false := decide_eq_false c4
      clear c4
      (first | rw [c4b0] | (simp only [i64_w, i32_w]; rw [c4b0]) | skip)
      have H' := Aside0.mk H
      clear H
      go_wp2
      repeat (go_quiet (fail); try go_wp2)
      go_meet
      case rel => exact ⟨_, (decide (a1 < 0)), (by first | rfl | (simp; done) | (simp [*]; done)), H', ⟨by first | omega | exact Nat.le_refl _⟩, ⟨by repeat (first | (with_reducible first | exact HB.out | apply below_alloc | apply pw_below_drewN | apply below_drew1) | exact HB.out)⟩⟩
  case rest =>
    clear HC3
    try clear p2
    try clear c4
    try clear c4b0
    obtain ⟨kq, x14_2, rfl, HA, HJ2, HB⟩ := hcut
    cases kq with
    | zero => exact absurd HA.out (by simp [estreatlaw26_ManifestNames.j0])
    | succ kj2 =>
      have H := HA.out
      clear HA
      simp only [estreatlaw26_ManifestNames.j0] at H
      by_cases c5 : x14_2 = true
      · subst c5
        have H1 : ((estreatlaw26_awake.f).bind fun t172 => (some t172)) = some r := by rw [if_pos rfl] at H; exact H
        clear H
        have H := H1
        clear H1
        replace H := Option.bind_eq_some_iff.mp H
        obtain ⟨t172, A60, H⟩ := H
        replace H : (some t172) = some r := H
        have A6 := Aside0.mk A60
        clear A60
        obtain rfl := Option.some.inj H
        go_wp2_with (first | (go_at_call 9; (with_reducible refine (n_awake.calls  t172 _ ?side1 A6.out).mono ?_); (case side1 => exact NamT.of_below HG.out (by repeat (first | (with_reducible first | exact HB.out | apply below_alloc | apply pw_below_drewN | apply below_drew1) | exact HB.out))); rintro e w7 ⟨rfl, hb⟩; have n0_ := Aside0.mk (below_step (by repeat (first | (with_reducible first | exact HB.out | apply below_alloc | apply pw_below_drewN | apply below_drew1) | exact HB.out)) hb); clear HB; have HB := n0_; clear n0_; (try clear hb); (try clear hb2); (try clear hk); (try clear hi)))
        repeat (go_quiet (first | (go_at_call 9; (with_reducible refine (n_awake.calls  t172 _ ?side1 A6.out).mono ?_); (case side1 => exact NamT.of_below HG.out (by repeat (first | (with_reducible first | exact HB.out | apply below_alloc | apply pw_below_drewN | apply below_drew1) | exact HB.out))); rintro e w7 ⟨rfl, hb⟩; have n0_ := Aside0.mk (below_step (by repeat (first | (with_reducible first | exact HB.out | apply below_alloc | apply pw_below_drewN | apply below_drew1) | exact HB.out)) hb); clear HB; have HB := n0_; clear n0_; (try clear hb); (try clear hb2); (try clear hk); (try clear hi))); try go_wp2_with (first | (go_at_call 9; (with_reducible refine (n_awake.calls  t172 _ ?side1 A6.out).mono ?_); (case side1 => exact NamT.of_below HG.out (by repeat (first | (with_reducible first | exact HB.out | apply below_alloc | apply pw_below_drewN | apply below_drew1) | exact HB.out))); rintro e w7 ⟨rfl, hb⟩; have n0_ := Aside0.mk (below_step (by repeat (first | (with_reducible first | exact HB.out | apply below_alloc | apply pw_below_drewN | apply below_drew1) | exact HB.out)) hb); clear HB; have HB := n0_; clear n0_; (try clear hb); (try clear hb2); (try clear hk); (try clear hi))))
        go_ret
        exact ⟨by first | rfl | (simp [errW_none, errW_some] <;> rfl) | (simp [*, errW_none, errW_some] <;> rfl), by repeat (first | (with_reducible first | exact HB.out | apply below_alloc | apply pw_below_drewN | apply below_drew1) | exact HB.out)⟩
      · replace c5 := Bool.eq_false_iff.mpr c5
        subst c5
        have H1 : ((manifest_LogName.f a0).bind fun t173 => ((manifest_LogName.f a1).bind fun t174 => ((manifest_GroupName.f a0).bind fun t175 => ((manifest_GroupName.f a1).bind fun t176 => (estreatlaw26_ManifestNames.l0 kj2 a0 a1 (([t173, t174, t175, t176, (⟨#[109, 97, 110, 105, 102, 101, 115, 116]⟩ : ByteArray), (⟨#[109, 97, 110, 105, 102, 101, 115, 116, 46, 110, 101, 119]⟩ : ByteArray)] : List ByteArray)) 0))))) = some r := by rw [if_neg (show ¬ (false = true) by decide)] at H; exact H
        clear H
        have H := H1
        clear H1
        replace H := Option.bind_eq_some_iff.mp H
        obtain ⟨t173, A80, H⟩ := H
        replace H : ((manifest_LogName.f a1).bind fun t174 => ((manifest_GroupName.f a0).bind fun t175 => ((manifest_GroupName.f a1).bind fun t176 => (estreatlaw26_ManifestNames.l0 kj2 a0 a1 (([t173, t174, t175, t176, (⟨#[109, 97, 110, 105, 102, 101, 115, 116]⟩ : ByteArray), (⟨#[109, 97, 110, 105, 102, 101, 115, 116, 46, 110, 101, 119]⟩ : ByteArray)] : List ByteArray)) 0)))) = some r := H
        have A8 := Aside0.mk A80
        clear A80
        replace H := Option.bind_eq_some_iff.mp H
        obtain ⟨t174, A90, H⟩ := H
        replace H : ((manifest_GroupName.f a0).bind fun t175 => ((manifest_GroupName.f a1).bind fun t176 => (estreatlaw26_ManifestNames.l0 kj2 a0 a1 (([t173, t174, t175, t176, (⟨#[109, 97, 110, 105, 102, 101, 115, 116]⟩ : ByteArray), (⟨#[109, 97, 110, 105, 102, 101, 115, 116, 46, 110, 101, 119]⟩ : ByteArray)] : List ByteArray)) 0))) = some r := H
        have A9 := Aside0.mk A90
        clear A90
        replace H := Option.bind_eq_some_iff.mp H
        obtain ⟨t175, A100, H⟩ := H
        replace H : ((manifest_GroupName.f a1).bind fun t176 => (estreatlaw26_ManifestNames.l0 kj2 a0 a1 (([t173, t174, t175, t176, (⟨#[109, 97, 110, 105, 102, 101, 115, 116]⟩ : ByteArray), (⟨#[109, 97, 110, 105, 102, 101, 115, 116, 46, 110, 101, 119]⟩ : ByteArray)] : List ByteArray)) 0)) = some r := H
        have A10 := Aside0.mk A100
        clear A100
        replace H := Option.bind_eq_some_iff.mp H
        obtain ⟨t176, A110, H⟩ := H
        replace H : (estreatlaw26_ManifestNames.l0 kj2 a0 a1 (([t173, t174, t175, t176, (⟨#[109, 97, 110, 105, 102, 101, 115, 116]⟩ : ByteArray), (⟨#[109, 97, 110, 105, 102, 101, 115, 116, 46, 110, 101, 119]⟩ : ByteArray)] : List ByteArray)) 0) = some r := H
        have A11 := Aside0.mk A110
        clear A110
        obtain ⟨y177, hy177⟩ : ∃ y_ : List ByteArray, y_ = (([t173, t174, t175, t176, (⟨#[109, 97, 110, 105, 102, 101, 115, 116]⟩ : ByteArray), (⟨#[109, 97, 110, 105, 102, 101, 115, 116, 46, 110, 101, 119]⟩ : ByteArray)] : List ByteArray)) := ⟨_, rfl⟩
        replace H : (estreatlaw26_ManifestNames.l0 kj2 a0 a1 y177 0) = some r := by first | (rw [hy177]; with_reducible exact H) | (have H2_ := (Option.bind_some _ _).symm.trans H; rw [hy177]; with_reducible exact H2_) | (have H2_ := (Option.bind_some _ _).symm.trans H; with_reducible exact H2_) | with_reducible exact H | (rw [hy177]; exact H) | exact H
        have Ny177 := Aside0.mk hy177
        clear hy177
        have H' := Aside0.mk H
        clear H
        go_wp2_with (first | (go_at_call 15; (with_reducible refine (manifest_LogName.calls a0 t173 _ ?side1 A8.out).mono ?_); (case side1 => exact NamT.of_below HG.out (by repeat (first | (with_reducible first | exact HB.out | apply below_alloc | apply pw_below_drewN | apply below_drew1) | exact HB.out))); rintro e w12 ⟨rfl, hb⟩; have n0_ := Aside0.mk (below_step (by repeat (first | (with_reducible first | exact HB.out | apply below_alloc | apply pw_below_drewN | apply below_drew1) | exact HB.out)) hb); clear HB; have HB := n0_; clear n0_; (try clear hb); (try clear hb2); (try clear hk); (try clear hi)) | (go_at_call 15; (with_reducible refine (manifest_LogName.calls a1 t174 _ ?side1 A9.out).mono ?_); (case side1 => exact NamT.of_below HG.out (by repeat (first | (with_reducible first | exact HB.out | apply below_alloc | apply pw_below_drewN | apply below_drew1) | exact HB.out))); rintro e w13 ⟨rfl, hb⟩; have n0_ := Aside0.mk (below_step (by repeat (first | (with_reducible first | exact HB.out | apply below_alloc | apply pw_below_drewN | apply below_drew1) | exact HB.out)) hb); clear HB; have HB := n0_; clear n0_; (try clear hb); (try clear hb2); (try clear hk); (try clear hi)) | (go_at_call 17; (with_reducible refine (manifest_GroupName.calls a0 t175 _ ?side1 A10.out).mono ?_); (case side1 => exact NamT.of_below HG.out (by repeat (first | (with_reducible first | exact HB.out | apply below_alloc | apply pw_below_drewN | apply below_drew1) | exact HB.out))); rintro e w14 ⟨rfl, hb⟩; have n0_ := Aside0.mk (below_step (by repeat (first | (with_reducible first | exact HB.out | apply below_alloc | apply pw_below_drewN | apply below_drew1) | exact HB.out)) hb); clear HB; have HB := n0_; clear n0_; (try clear hb); (try clear hb2); (try clear hk); (try clear hi)) | (go_at_call 17; (with_reducible refine (manifest_GroupName.calls a1 t176 _ ?side1 A11.out).mono ?_); (case side1 => exact NamT.of_below HG.out (by repeat (first | (with_reducible first | exact HB.out | apply below_alloc | apply pw_below_drewN | apply below_drew1) | exact HB.out))); rintro e w15 ⟨rfl, hb⟩; have n0_ := Aside0.mk (below_step (by repeat (first | (with_reducible first | exact HB.out | apply below_alloc | apply pw_below_drewN | apply below_drew1) | exact HB.out)) hb); clear HB; have HB := n0_; clear n0_; (try clear hb); (try clear hb2); (try clear hk); (try clear hi)) | ((with_reducible refine gate_dst (N := 24) rfl ?_); (try (refine gate_guard (by rfl) ?_; dsimp only)); refine Kd.R_lit Kd.string _ 9 ?hg (N := 24) ?hd (xs := ([t173, t174, t175, t176, (⟨#[109, 97, 110, 105, 102, 101, 115, 116]⟩ : ByteArray), (⟨#[109, 97, 110, 105, 102, 101, 115, 116, 46, 110, 101, 119]⟩ : ByteArray)] : List ByteArray)) (inner := [.string t173, .string t174, .string t175, .string t176, .string (⟨#[109, 97, 110, 105, 102, 101, 115, 116]⟩ : ByteArray), .string (⟨#[109, 97, 110, 105, 102, 101, 115, 116, 46, 110, 101, 119]⟩ : ByteArray)]) (ok := fun _ => True) (okp := fun _ => True) ?hr ?hp (fun _ hk => hk) trivial (Below.refl _ _) (Nat.le_refl _) (by simp) ?_; (case hd => rfl); (case hg => rfl); (case hr => first | (go_simp; done) | (go_simp; rfl)); (case hp => exact (Reps.one (show Kd.M Kd.string _ _ _ t173 [.string t173] from rfl) (Reps.one (show Kd.M Kd.string _ _ _ t174 [.string t174] from rfl) (Reps.one (show Kd.M Kd.string _ _ _ t175 [.string t175] from rfl) (Reps.one (show Kd.M Kd.string _ _ _ t176 [.string t176] from rfl) (Reps.one (show Kd.M Kd.string _ _ _ (⟨#[109, 97, 110, 105, 102, 101, 115, 116]⟩ : ByteArray) [.string (⟨#[109, 97, 110, 105, 102, 101, 115, 116]⟩ : ByteArray)] from rfl) (Reps.one (show Kd.M Kd.string _ _ _ (⟨#[109, 97, 110, 105, 102, 101, 115, 116, 46, 110, 101, 119]⟩ : ByteArray) [.string (⟨#[109, 97, 110, 105, 102, 101, 115, 116, 46, 110, 101, 119]⟩ : ByteArray)] from rfl) (Reps.none _ _)))))))); intro v178 w16 ho17 hb hg_ hnew_; clear hg_ hnew_; (first | rw [← Ny177.out] at ho17 | (simp only [Int.reduceToNat] at ho17; rw [← Ny177.out] at ho17)); have n0_ := Aside0.mk (Kd.R_lower ho17 (below_size (by repeat (first | (with_reducible first | exact HB.out | apply below_alloc | apply pw_below_drewN | apply below_drew1) | exact HB.out)))); have n1_ := Aside0.mk (below_step (by repeat (first | (with_reducible first | exact HB.out | apply below_alloc | apply pw_below_drewN | apply below_drew1) | exact HB.out)) hb); clear HB; have HO179 := n0_; have HB := n1_; clear n0_ n1_; clear hb ho17))
        repeat (go_quiet (first | (go_at_call 15; (with_reducible refine (manifest_LogName.calls a0 t173 _ ?side1 A8.out).mono ?_); (case side1 => exact NamT.of_below HG.out (by repeat (first | (with_reducible first | exact HB.out | apply below_alloc | apply pw_below_drewN | apply below_drew1) | exact HB.out))); rintro e w12 ⟨rfl, hb⟩; have n0_ := Aside0.mk (below_step (by repeat (first | (with_reducible first | exact HB.out | apply below_alloc | apply pw_below_drewN | apply below_drew1) | exact HB.out)) hb); clear HB; have HB := n0_; clear n0_; (try clear hb); (try clear hb2); (try clear hk); (try clear hi)) | (go_at_call 15; (with_reducible refine (manifest_LogName.calls a1 t174 _ ?side1 A9.out).mono ?_); (case side1 => exact NamT.of_below HG.out (by repeat (first | (with_reducible first | exact HB.out | apply below_alloc | apply pw_below_drewN | apply below_drew1) | exact HB.out))); rintro e w13 ⟨rfl, hb⟩; have n0_ := Aside0.mk (below_step (by repeat (first | (with_reducible first | exact HB.out | apply below_alloc | apply pw_below_drewN | apply below_drew1) | exact HB.out)) hb); clear HB; have HB := n0_; clear n0_; (try clear hb); (try clear hb2); (try clear hk); (try clear hi)) | (go_at_call 17; (with_reducible refine (manifest_GroupName.calls a0 t175 _ ?side1 A10.out).mono ?_); (case side1 => exact NamT.of_below HG.out (by repeat (first | (with_reducible first | exact HB.out | apply below_alloc | apply pw_below_drewN | apply below_drew1) | exact HB.out))); rintro e w14 ⟨rfl, hb⟩; have n0_ := Aside0.mk (below_step (by repeat (first | (with_reducible first | exact HB.out | apply below_alloc | apply pw_below_drewN | apply below_drew1) | exact HB.out)) hb); clear HB; have HB := n0_; clear n0_; (try clear hb); (try clear hb2); (try clear hk); (try clear hi)) | (go_at_call 17; (with_reducible refine (manifest_GroupName.calls a1 t176 _ ?side1 A11.out).mono ?_); (case side1 => exact NamT.of_below HG.out (by repeat (first | (with_reducible first | exact HB.out | apply below_alloc | apply pw_below_drewN | apply below_drew1) | exact HB.out))); rintro e w15 ⟨rfl, hb⟩; have n0_ := Aside0.mk (below_step (by repeat (first | (with_reducible first | exact HB.out | apply below_alloc | apply pw_below_drewN | apply below_drew1) | exact HB.out)) hb); clear HB; have HB := n0_; clear n0_; (try clear hb); (try clear hb2); (try clear hk); (try clear hi)) | ((with_reducible refine gate_dst (N := 24) rfl ?_); (try (refine gate_guard (by rfl) ?_; dsimp only)); refine Kd.R_lit Kd.string _ 9 ?hg (N := 24) ?hd (xs := ([t173, t174, t175, t176, (⟨#[109, 97, 110, 105, 102, 101, 115, 116]⟩ : ByteArray), (⟨#[109, 97, 110, 105, 102, 101, 115, 116, 46, 110, 101, 119]⟩ : ByteArray)] : List ByteArray)) (inner := [.string t173, .string t174, .string t175, .string t176, .string (⟨#[109, 97, 110, 105, 102, 101, 115, 116]⟩ : ByteArray), .string (⟨#[109, 97, 110, 105, 102, 101, 115, 116, 46, 110, 101, 119]⟩ : ByteArray)]) (ok := fun _ => True) (okp := fun _ => True) ?hr ?hp (fun _ hk => hk) trivial (Below.refl _ _) (Nat.le_refl _) (by simp) ?_; (case hd => rfl); (case hg => rfl); (case hr => first | (go_simp; done) | (go_simp; rfl)); (case hp => exact (Reps.one (show Kd.M Kd.string _ _ _ t173 [.string t173] from rfl) (Reps.one (show Kd.M Kd.string _ _ _ t174 [.string t174] from rfl) (Reps.one (show Kd.M Kd.string _ _ _ t175 [.string t175] from rfl) (Reps.one (show Kd.M Kd.string _ _ _ t176 [.string t176] from rfl) (Reps.one (show Kd.M Kd.string _ _ _ (⟨#[109, 97, 110, 105, 102, 101, 115, 116]⟩ : ByteArray) [.string (⟨#[109, 97, 110, 105, 102, 101, 115, 116]⟩ : ByteArray)] from rfl) (Reps.one (show Kd.M Kd.string _ _ _ (⟨#[109, 97, 110, 105, 102, 101, 115, 116, 46, 110, 101, 119]⟩ : ByteArray) [.string (⟨#[109, 97, 110, 105, 102, 101, 115, 116, 46, 110, 101, 119]⟩ : ByteArray)] from rfl) (Reps.none _ _)))))))); intro v178 w16 ho17 hb hg_ hnew_; clear hg_ hnew_; (first | rw [← Ny177.out] at ho17 | (simp only [Int.reduceToNat] at ho17; rw [← Ny177.out] at ho17)); have n0_ := Aside0.mk (Kd.R_lower ho17 (below_size (by repeat (first | (with_reducible first | exact HB.out | apply below_alloc | apply pw_below_drewN | apply below_drew1) | exact HB.out)))); have n1_ := Aside0.mk (below_step (by repeat (first | (with_reducible first | exact HB.out | apply below_alloc | apply pw_below_drewN | apply below_drew1) | exact HB.out)) hb); clear HB; have HO179 := n0_; have HB := n1_; clear n0_ n1_; clear hb ho17)); try go_wp2_with (first | (go_at_call 15; (with_reducible refine (manifest_LogName.calls a0 t173 _ ?side1 A8.out).mono ?_); (case side1 => exact NamT.of_below HG.out (by repeat (first | (with_reducible first | exact HB.out | apply below_alloc | apply pw_below_drewN | apply below_drew1) | exact HB.out))); rintro e w12 ⟨rfl, hb⟩; have n0_ := Aside0.mk (below_step (by repeat (first | (with_reducible first | exact HB.out | apply below_alloc | apply pw_below_drewN | apply below_drew1) | exact HB.out)) hb); clear HB; have HB := n0_; clear n0_; (try clear hb); (try clear hb2); (try clear hk); (try clear hi)) | (go_at_call 15; (with_reducible refine (manifest_LogName.calls a1 t174 _ ?side1 A9.out).mono ?_); (case side1 => exact NamT.of_below HG.out (by repeat (first | (with_reducible first | exact HB.out | apply below_alloc | apply pw_below_drewN | apply below_drew1) | exact HB.out))); rintro e w13 ⟨rfl, hb⟩; have n0_ := Aside0.mk (below_step (by repeat (first | (with_reducible first | exact HB.out | apply below_alloc | apply pw_below_drewN | apply below_drew1) | exact HB.out)) hb); clear HB; have HB := n0_; clear n0_; (try clear hb); (try clear hb2); (try clear hk); (try clear hi)) | (go_at_call 17; (with_reducible refine (manifest_GroupName.calls a0 t175 _ ?side1 A10.out).mono ?_); (case side1 => exact NamT.of_below HG.out (by repeat (first | (with_reducible first | exact HB.out | apply below_alloc | apply pw_below_drewN | apply below_drew1) | exact HB.out))); rintro e w14 ⟨rfl, hb⟩; have n0_ := Aside0.mk (below_step (by repeat (first | (with_reducible first | exact HB.out | apply below_alloc | apply pw_below_drewN | apply below_drew1) | exact HB.out)) hb); clear HB; have HB := n0_; clear n0_; (try clear hb); (try clear hb2); (try clear hk); (try clear hi)) | (go_at_call 17; (with_reducible refine (manifest_GroupName.calls a1 t176 _ ?side1 A11.out).mono ?_); (case side1 => exact NamT.of_below HG.out (by repeat (first | (with_reducible first | exact HB.out | apply below_alloc | apply pw_below_drewN | apply below_drew1) | exact HB.out))); rintro e w15 ⟨rfl, hb⟩; have n0_ := Aside0.mk (below_step (by repeat (first | (with_reducible first | exact HB.out | apply below_alloc | apply pw_below_drewN | apply below_drew1) | exact HB.out)) hb); clear HB; have HB := n0_; clear n0_; (try clear hb); (try clear hb2); (try clear hk); (try clear hi)) | ((with_reducible refine gate_dst (N := 24) rfl ?_); (try (refine gate_guard (by rfl) ?_; dsimp only)); refine Kd.R_lit Kd.string _ 9 ?hg (N := 24) ?hd (xs := ([t173, t174, t175, t176, (⟨#[109, 97, 110, 105, 102, 101, 115, 116]⟩ : ByteArray), (⟨#[109, 97, 110, 105, 102, 101, 115, 116, 46, 110, 101, 119]⟩ : ByteArray)] : List ByteArray)) (inner := [.string t173, .string t174, .string t175, .string t176, .string (⟨#[109, 97, 110, 105, 102, 101, 115, 116]⟩ : ByteArray), .string (⟨#[109, 97, 110, 105, 102, 101, 115, 116, 46, 110, 101, 119]⟩ : ByteArray)]) (ok := fun _ => True) (okp := fun _ => True) ?hr ?hp (fun _ hk => hk) trivial (Below.refl _ _) (Nat.le_refl _) (by simp) ?_; (case hd => rfl); (case hg => rfl); (case hr => first | (go_simp; done) | (go_simp; rfl)); (case hp => exact (Reps.one (show Kd.M Kd.string _ _ _ t173 [.string t173] from rfl) (Reps.one (show Kd.M Kd.string _ _ _ t174 [.string t174] from rfl) (Reps.one (show Kd.M Kd.string _ _ _ t175 [.string t175] from rfl) (Reps.one (show Kd.M Kd.string _ _ _ t176 [.string t176] from rfl) (Reps.one (show Kd.M Kd.string _ _ _ (⟨#[109, 97, 110, 105, 102, 101, 115, 116]⟩ : ByteArray) [.string (⟨#[109, 97, 110, 105, 102, 101, 115, 116]⟩ : ByteArray)] from rfl) (Reps.one (show Kd.M Kd.string _ _ _ (⟨#[109, 97, 110, 105, 102, 101, 115, 116, 46, 110, 101, 119]⟩ : ByteArray) [.string (⟨#[109, 97, 110, 105, 102, 101, 115, 116, 46, 110, 101, 119]⟩ : ByteArray)] from rfl) (Reps.none _ _)))))))); intro v178 w16 ho17 hb hg_ hnew_; clear hg_ hnew_; (first | rw [← Ny177.out] at ho17 | (simp only [Int.reduceToNat] at ho17; rw [← Ny177.out] at ho17)); have n0_ := Aside0.mk (Kd.R_lower ho17 (below_size (by repeat (first | (with_reducible first | exact HB.out | apply below_alloc | apply pw_below_drewN | apply below_drew1) | exact HB.out)))); have n1_ := Aside0.mk (below_step (by repeat (first | (with_reducible first | exact HB.out | apply below_alloc | apply pw_below_drewN | apply below_drew1) | exact HB.out)) hb); clear HB; have HO179 := n0_; have HB := n1_; clear n0_ n1_; clear hb ho17)))
        go_loopg [6] kj2 (fun kq v6 w' => ∃ (x6_2 : Int), v6 = .int .i64 x6_2 ∧ Aside0 (estreatlaw26_ManifestNames.l0 kq a0 a1 y177 x6_2 = some r) ∧ Aside0 (kq ≤ kj2) ∧ Aside0 (Kd.R Kd.string 9 w' w.heap.size (fun _ => True) v178 y177) ∧ Aside0 (Below w.heap.size w w'))
        case atStart => exact ⟨(0), (by first | rfl | (simp; done) | (simp [*]; done)), H', ⟨Nat.le_refl _⟩, ⟨by (with_reducible repeat (first | apply Kd.R_alloc | apply Kd.R_drewN | apply Kd.R_drew)); exact HO179.out⟩, ⟨by repeat (first | (with_reducible first | exact HB.out | apply below_alloc | apply pw_below_drewN | apply below_drew1) | exact HB.out)⟩⟩
        case round =>
          clear H'
          try clear p2
          try clear c4
          try clear c4b0
          try clear c5
          try clear c6
          try clear p2
          obtain ⟨x6_2, rfl, HA, HK2, HO_5, HB⟩ := hrel
          cases gk with
          | zero => exact absurd HA.out (by simp [estreatlaw26_ManifestNames.l0])
          | succ k2 =>
            have H := HA.out
            clear HA
            simp only [estreatlaw26_ManifestNames.l0] at H
            by_cases c18 : x6_2 < (y177.length : Int)
            · rw [if_pos c18] at H
              have c18b0 : decide (x6_2 < (y177.length : Int)) = true := decide_eq_true c18
              clear c18
              have H' := Aside0.mk H
              clear H
              obtain ⟨Ao19, co19, eo19⟩ := Kd.R_slice HO_5.out
              subst eo19
              go_wp2
              repeat (go_quiet (fail); try go_wp2)
              go_loopg [7] k2 (fun kq v7 w' => ∃ (x7_3 : Int), v7 = .int .i64 x7_3 ∧ Aside0 (estreatlaw26_ManifestNames.l1 kq a0 a1 y177 x6_2 x7_3 = some r) ∧ Aside0 (kq ≤ k2) ∧ Aside0 (Kd.R Kd.string 9 w' w.heap.size (fun _ => True) (.slice Ao19 y177.length co19) y177) ∧ Aside0 (Below w.heap.size w w'))
              case atStart => exact ⟨(0), (by first | rfl | (simp; done) | (simp [*]; done)), H', ⟨Nat.le_refl _⟩, ⟨by (with_reducible repeat (first | apply Kd.R_alloc | apply Kd.R_drewN | apply Kd.R_drew)); exact HO_5.out⟩, ⟨by repeat (first | (with_reducible first | exact HB.out | apply below_alloc | apply pw_below_drewN | apply below_drew1) | exact HB.out)⟩⟩
              case round =>
                clear H'
                try clear c1
                try clear p2
                try clear c4
                try clear c4b0
                try clear c5
                try clear c6
                try clear c18
                try clear c18b0
                try clear p2
                obtain ⟨x7_3, rfl, HA, HK3, HO_5, HB⟩ := hrel
                cases gk with
                | zero => exact absurd HA.out (by simp [estreatlaw26_ManifestNames.l1])
                | succ k3 =>
                  have H := HA.out
                  clear HA
                  simp only [estreatlaw26_ManifestNames.l1] at H
                  by_cases c20 : x7_3 < x6_2
                  · rw [if_pos c20] at H
                    have c20b0 : decide (x7_3 < x6_2) = true := decide_eq_true c20
                    clear c20
                    by_cases c21 : a0 = a1
                    · rw [if_pos c21] at H
                      have c21b0 : (a0 == a1) = true := beq_iff_eq.mpr c21
                      have c21b1 : (a0 != a1) = false := bne_eq_false_iff_eq.mpr c21
                      clear c21
                      by_cases c22 : x6_2 = 1
                      · rw [if_pos c22] at H
                        have c22b0 : (x6_2 == 1) = true := beq_iff_eq.mpr c22
                        have c22b1 : (x6_2 != 1) = false := bne_eq_false_iff_eq.mpr c22
                        clear c22
                        by_cases c23 : x7_3 = 0
                        · rw [if_pos c23] at H
                          have c23b0 : (x7_3 == 0) = true := beq_iff_eq.mpr c23
                          have c23b1 : (x7_3 != 0) = false := bne_eq_false_iff_eq.mpr c23
                          clear c23
                          by_cases c24 : 0 ≤ x6_2
                          · rw [if_pos c24] at H
                            have c24b0 : decide (0 ≤ x6_2) = true := decide_eq_true c24
                            clear c24
                            by_cases c25 : x6_2 < (y177.length : Int)
                            · rw [if_pos c25] at H
                              have c25b0 : decide (x6_2 < (y177.length : Int)) = true := decide_eq_true c25
                              clear c25
                              by_cases c26 : 0 ≤ x7_3
                              · rw [if_pos c26] at H
                                have c26b0 : decide (0 ≤ x7_3) = true := decide_eq_true c26
                                clear c26
                                by_cases c27 : x7_3 < (y177.length : Int)
                                · rw [if_pos c27] at H
                                  have c27b0 : decide (x7_3 < (y177.length : Int)) = true := decide_eq_true c27
                                  clear c27
                                  by_cases c28 : (((rdOf ByteArray.empty y177 x6_2).toList == (rdOf ByteArray.empty y177 x7_3).toList) != true) = true
                                  · rw [if_pos c28] at H
                                    have c28b0 : (((rdOf ByteArray.empty y177 x6_2).toList == (rdOf ByteArray.empty y177 x7_3).toList) != true) = true := c28
                                    (try (have c28b1 : decide (((rdOf ByteArray.empty y177 x6_2).toList == (rdOf ByteArray.empty y177 x7_3).toList) = true) = false := by simpa using c28))
                                    (try (have c28b2 : (((rdOf ByteArray.empty y177 x6_2).toList == (rdOf ByteArray.empty y177 x7_3).toList) == true) = false := by simpa using c28))
                                    (try (have c28b3 : ¬ (((rdOf ByteArray.empty y177 x6_2).toList == (rdOf ByteArray.empty y177 x7_3).toList) = true) := by simpa using c28))
                                    clear c28
                                    obtain rfl := Option.some.inj H
                                    have p181 : 0 ≤ (x6_2 : Int) := of_decide_eq_true (by first | (with_reducible assumption) | assumption)
                                    have q181 : x6_2 < (y177.length : Int) := of_decide_eq_true (by first | (with_reducible assumption) | assumption)
                                    obtain ⟨ad181, e181, hx181_0⟩ := Kd.at_string (Kd.R_reads' HO_5.out).2.2 x6_2 p181 q181
                                    cases e181
                                    replace p181 := eq_true p181
                                    replace q181 := eq_true q181
                                    have p182 : 0 ≤ (x7_3 : Int) := of_decide_eq_true (by first | (with_reducible assumption) | assumption)
                                    have q182 : x7_3 < (y177.length : Int) := of_decide_eq_true (by first | (with_reducible assumption) | assumption)
                                    obtain ⟨ad182, e182, hx182_0⟩ := Kd.at_string (Kd.R_reads' HO_5.out).2.2 x7_3 p182 q182
                                    obtain rfl : ad181 = ad182 := (by injection e182)
                                    replace p182 := eq_true p182
                                    replace q182 := eq_true q182
                                    go_wp2
                                    repeat (go_quiet (fail); try go_wp2)
                                    go_ret
                                    exact ⟨by first | rfl | (simp [errW_none, errW_some] <;> rfl) | (simp [*, errW_none, errW_some] <;> rfl), by repeat (first | (with_reducible first | exact HB.out | apply below_alloc | apply pw_below_drewN | apply below_drew1) | exact HB.out)⟩
                                  · rw [if_neg c28] at H
                                    have c28b0 : (((rdOf ByteArray.empty y177 x6_2).toList == (rdOf ByteArray.empty y177 x7_3).toList) != true) = false := by simpa using c28
                                    (try (have c28b1 : decide (((rdOf ByteArray.empty y177 x6_2).toList == (rdOf ByteArray.empty y177 x7_3).toList) = true) = true := by simpa using c28))
                                    (try (have c28b2 : (((rdOf ByteArray.empty y177 x6_2).toList == (rdOf ByteArray.empty y177 x7_3).toList) == true) = true := by simpa using c28))
                                    clear c28
                                    have H' := Aside0.mk H
                                    clear H
                                    have p181 : 0 ≤ (x6_2 : Int) := of_decide_eq_true (by first | (with_reducible assumption) | assumption)
                                    have q181 : x6_2 < (y177.length : Int) := of_decide_eq_true (by first | (with_reducible assumption) | assumption)
                                    obtain ⟨ad181, e181, hx181_0⟩ := Kd.at_string (Kd.R_reads' HO_5.out).2.2 x6_2 p181 q181
                                    cases e181
                                    replace p181 := eq_true p181
                                    replace q181 := eq_true q181
                                    have p182 : 0 ≤ (x7_3 : Int) := of_decide_eq_true (by first | (with_reducible assumption) | assumption)
                                    have q182 : x7_3 < (y177.length : Int) := of_decide_eq_true (by first | (with_reducible assumption) | assumption)
                                    obtain ⟨ad182, e182, hx182_0⟩ := Kd.at_string (Kd.R_reads' HO_5.out).2.2 x7_3 p182 q182
                                    obtain rfl : ad181 = ad182 := (by injection e182)
                                    replace p182 := eq_true p182
                                    replace q182 := eq_true q182
                                    go_wp2
                                    repeat (go_quiet (fail); try go_wp2)
                                    go_roundg k3
                                    case measure => have := HJ2.out; have := HK2.out; have := HK3.out; omega
                                    case rel => exact ⟨(wrap64 (x7_3 + 1)), (by first | rfl | (simp; done) | (simp [*]; done)), H', ⟨by have := HJ2.out; have := HK2.out; have := HK3.out; omega⟩, ⟨by (with_reducible repeat (first | apply Kd.R_alloc | apply Kd.R_drewN | apply Kd.R_drew)); exact HO_5.out⟩, ⟨by repeat (first | (with_reducible first | exact HB.out | apply below_alloc | apply pw_below_drewN | apply below_drew1) | exact HB.out)⟩⟩
                                · rw [if_neg c27] at H
                                  exact absurd H (by simp)
                              · rw [if_neg c26] at H
                                exact absurd H (by simp)
                            · rw [if_neg c25] at H
                              exact absurd H (by simp)
                          · rw [if_neg c24] at H
                            exact absurd H (by simp)
                        · rw [if_neg c23] at H
                          have c23b0 : (x7_3 == 0) = false := beq_eq_false_iff_ne.mpr c23
                          have c23b1 : (x7_3 != 0) = true := bne_iff_ne.mpr c23
                          by_cases c29 : x6_2 = 3
                          · rw [if_pos c29] at H
                            have c29b0 : (x6_2 == 3) = true := beq_iff_eq.mpr c29
                            have c29b1 : (x6_2 != 3) = false := bne_eq_false_iff_eq.mpr c29
                            clear c29
                            by_cases c30 : 0 ≤ x6_2
                            · rw [if_pos c30] at H
                              have c30b0 : decide (0 ≤ x6_2) = true := decide_eq_true c30
                              clear c30
                              by_cases c31 : x6_2 < (y177.length : Int)
                              · rw [if_pos c31] at H
                                have c31b0 : decide (x6_2 < (y177.length : Int)) = true := decide_eq_true c31
                                clear c31
                                by_cases c32 : 0 ≤ x7_3
                                · rw [if_pos c32] at H
                                  have c32b0 : decide (0 ≤ x7_3) = true := decide_eq_true c32
                                  clear c32
                                  by_cases c33 : x7_3 < (y177.length : Int)
                                  · rw [if_pos c33] at H
                                    have c33b0 : decide (x7_3 < (y177.length : Int)) = true := decide_eq_true c33
                                    clear c33
                                    by_cases c34 : (((rdOf ByteArray.empty y177 x6_2).toList == (rdOf ByteArray.empty y177 x7_3).toList) != (x7_3 == 2)) = true
                                    · rw [if_pos c34] at H
                                      have c34b0 : (((rdOf ByteArray.empty y177 x6_2).toList == (rdOf ByteArray.empty y177 x7_3).toList) != (x7_3 == 2)) = true := c34
                                      (try (have c34b1 : decide (((rdOf ByteArray.empty y177 x6_2).toList == (rdOf ByteArray.empty y177 x7_3).toList) = (x7_3 == 2)) = false := by simpa using c34))
                                      (try (have c34b2 : (((rdOf ByteArray.empty y177 x6_2).toList == (rdOf ByteArray.empty y177 x7_3).toList) == (x7_3 == 2)) = false := by simpa using c34))
                                      (try (have c34b3 : ¬ (((rdOf ByteArray.empty y177 x6_2).toList == (rdOf ByteArray.empty y177 x7_3).toList) = (x7_3 == 2)) := by simpa using c34))
                                      clear c34
                                      obtain rfl := Option.some.inj H
                                      have p183 : 0 ≤ (x6_2 : Int) := of_decide_eq_true (by first | (with_reducible assumption) | assumption)
                                      have q183 : x6_2 < (y177.length : Int) := of_decide_eq_true (by first | (with_reducible assumption) | assumption)
                                      obtain ⟨ad183, e183, hx183_0⟩ := Kd.at_string (Kd.R_reads' HO_5.out).2.2 x6_2 p183 q183
                                      cases e183
                                      replace p183 := eq_true p183
                                      replace q183 := eq_true q183
                                      have p184 : 0 ≤ (x7_3 : Int) := of_decide_eq_true (by first | (with_reducible assumption) | assumption)
                                      have q184 : x7_3 < (y177.length : Int) := of_decide_eq_true (by first | (with_reducible assumption) | assumption)
                                      obtain ⟨ad184, e184, hx184_0⟩ := Kd.at_string (Kd.R_reads' HO_5.out).2.2 x7_3 p184 q184
                                      obtain rfl : ad183 = ad184 := (by injection e184)
                                      replace p184 := eq_true p184
                                      replace q184 := eq_true q184
                                      go_wp2
                                      repeat (go_quiet (fail); try go_wp2)
                                      go_ret
                                      exact ⟨by first | rfl | (simp [errW_none, errW_some] <;> rfl) | (simp [*, errW_none, errW_some] <;> rfl), by repeat (first | (with_reducible first | exact HB.out | apply below_alloc | apply pw_below_drewN | apply below_drew1) | exact HB.out)⟩
                                    · rw [if_neg c34] at H
                                      have c34b0 : (((rdOf ByteArray.empty y177 x6_2).toList == (rdOf ByteArray.empty y177 x7_3).toList) != (x7_3 == 2)) = false := by simpa using c34
                                      (try (have c34b1 : decide (((rdOf ByteArray.empty y177 x6_2).toList == (rdOf ByteArray.empty y177 x7_3).toList) = (x7_3 == 2)) = true := by simpa using c34))
                                      (try (have c34b2 : (((rdOf ByteArray.empty y177 x6_2).toList == (rdOf ByteArray.empty y177 x7_3).toList) == (x7_3 == 2)) = true := by simpa using c34))
                                      clear c34
                                      have H' := Aside0.mk H
                                      clear H
                                      have p183 : 0 ≤ (x6_2 : Int) := of_decide_eq_true (by first | (with_reducible assumption) | assumption)
                                      have q183 : x6_2 < (y177.length : Int) := of_decide_eq_true (by first | (with_reducible assumption) | assumption)
                                      obtain ⟨ad183, e183, hx183_0⟩ := Kd.at_string (Kd.R_reads' HO_5.out).2.2 x6_2 p183 q183
                                      cases e183
                                      replace p183 := eq_true p183
                                      replace q183 := eq_true q183
                                      have p184 : 0 ≤ (x7_3 : Int) := of_decide_eq_true (by first | (with_reducible assumption) | assumption)
                                      have q184 : x7_3 < (y177.length : Int) := of_decide_eq_true (by first | (with_reducible assumption) | assumption)
                                      obtain ⟨ad184, e184, hx184_0⟩ := Kd.at_string (Kd.R_reads' HO_5.out).2.2 x7_3 p184 q184
                                      obtain rfl : ad183 = ad184 := (by injection e184)
                                      replace p184 := eq_true p184
                                      replace q184 := eq_true q184
                                      go_wp2
                                      repeat (go_quiet (fail); try go_wp2)
                                      go_roundg k3
                                      case measure => have := HJ2.out; have := HK2.out; have := HK3.out; omega
                                      case rel => exact ⟨(wrap64 (x7_3 + 1)), (by first | rfl | (simp; done) | (simp [*]; done)), H', ⟨by have := HJ2.out; have := HK2.out; have := HK3.out; omega⟩, ⟨by (with_reducible repeat (first | apply Kd.R_alloc | apply Kd.R_drewN | apply Kd.R_drew)); exact HO_5.out⟩, ⟨by repeat (first | (with_reducible first | exact HB.out | apply below_alloc | apply pw_below_drewN | apply below_drew1) | exact HB.out)⟩⟩
                                  · rw [if_neg c33] at H
                                    exact absurd H (by simp)
                                · rw [if_neg c32] at H
                                  exact absurd H (by simp)
                              · rw [if_neg c31] at H
                                exact absurd H (by simp)
                            · rw [if_neg c30] at H
                              exact absurd H (by simp)
                          · rw [if_neg c29] at H
                            have c29b0 : (x6_2 == 3) = false := beq_eq_false_iff_ne.mpr c29
                            have c29b1 : (x6_2 != 3) = true := bne_iff_ne.mpr c29
                            by_cases c35 : 0 ≤ x6_2
                            · rw [if_pos c35] at H
                              have c35b0 : decide (0 ≤ x6_2) = true := decide_eq_true c35
                              clear c35
                              by_cases c36 : x6_2 < (y177.length : Int)
                              · rw [if_pos c36] at H
                                have c36b0 : decide (x6_2 < (y177.length : Int)) = true := decide_eq_true c36
                                clear c36
                                by_cases c37 : 0 ≤ x7_3
                                · rw [if_pos c37] at H
                                  have c37b0 : decide (0 ≤ x7_3) = true := decide_eq_true c37
                                  clear c37
                                  by_cases c38 : x7_3 < (y177.length : Int)
                                  · rw [if_pos c38] at H
                                    have c38b0 : decide (x7_3 < (y177.length : Int)) = true := decide_eq_true c38
                                    clear c38
                                    by_cases c39 : (((rdOf ByteArray.empty y177 x6_2).toList == (rdOf ByteArray.empty y177 x7_3).toList) != false) = true
                                    · rw [if_pos c39] at H
                                      have c39b0 : (((rdOf ByteArray.empty y177 x6_2).toList == (rdOf ByteArray.empty y177 x7_3).toList) != false) = true := c39
                                      (try (have c39b1 : decide (((rdOf ByteArray.empty y177 x6_2).toList == (rdOf ByteArray.empty y177 x7_3).toList) = false) = false := by simpa using c39))
                                      (try (have c39b2 : (((rdOf ByteArray.empty y177 x6_2).toList == (rdOf ByteArray.empty y177 x7_3).toList) == false) = false := by simpa using c39))
                                      (try (have c39b3 : ¬ (((rdOf ByteArray.empty y177 x6_2).toList == (rdOf ByteArray.empty y177 x7_3).toList) = false) := by simpa using c39))
                                      clear c39
                                      obtain rfl := Option.some.inj H
                                      have p185 : 0 ≤ (x6_2 : Int) := of_decide_eq_true (by first | (with_reducible assumption) | assumption)
                                      have q185 : x6_2 < (y177.length : Int) := of_decide_eq_true (by first | (with_reducible assumption) | assumption)
                                      obtain ⟨ad185, e185, hx185_0⟩ := Kd.at_string (Kd.R_reads' HO_5.out).2.2 x6_2 p185 q185
                                      cases e185
                                      replace p185 := eq_true p185
                                      replace q185 := eq_true q185
                                      have p186 : 0 ≤ (x7_3 : Int) := of_decide_eq_true (by first | (with_reducible assumption) | assumption)
                                      have q186 : x7_3 < (y177.length : Int) := of_decide_eq_true (by first | (with_reducible assumption) | assumption)
                                      obtain ⟨ad186, e186, hx186_0⟩ := Kd.at_string (Kd.R_reads' HO_5.out).2.2 x7_3 p186 q186
                                      obtain rfl : ad185 = ad186 := (by injection e186)
                                      replace p186 := eq_true p186
                                      replace q186 := eq_true q186
                                      go_wp2
                                      repeat (go_quiet (fail); try go_wp2)
                                      go_ret
                                      exact ⟨by first | rfl | (simp [errW_none, errW_some] <;> rfl) | (simp [*, errW_none, errW_some] <;> rfl), by repeat (first | (with_reducible first | exact HB.out | apply below_alloc | apply pw_below_drewN | apply below_drew1) | exact HB.out)⟩
                                    · rw [if_neg c39] at H
                                      have c39b0 : (((rdOf ByteArray.empty y177 x6_2).toList == (rdOf ByteArray.empty y177 x7_3).toList) != false) = false := by simpa using c39
                                      (try (have c39b1 : decide (((rdOf ByteArray.empty y177 x6_2).toList == (rdOf ByteArray.empty y177 x7_3).toList) = false) = true := by simpa using c39))
                                      (try (have c39b2 : (((rdOf ByteArray.empty y177 x6_2).toList == (rdOf ByteArray.empty y177 x7_3).toList) == false) = true := by simpa using c39))
                                      clear c39
                                      have H' := Aside0.mk H
                                      clear H
                                      have p185 : 0 ≤ (x6_2 : Int) := of_decide_eq_true (by first | (with_reducible assumption) | assumption)
                                      have q185 : x6_2 < (y177.length : Int) := of_decide_eq_true (by first | (with_reducible assumption) | assumption)
                                      obtain ⟨ad185, e185, hx185_0⟩ := Kd.at_string (Kd.R_reads' HO_5.out).2.2 x6_2 p185 q185
                                      cases e185
                                      replace p185 := eq_true p185
                                      replace q185 := eq_true q185
                                      have p186 : 0 ≤ (x7_3 : Int) := of_decide_eq_true (by first | (with_reducible assumption) | assumption)
                                      have q186 : x7_3 < (y177.length : Int) := of_decide_eq_true (by first | (with_reducible assumption) | assumption)
                                      obtain ⟨ad186, e186, hx186_0⟩ := Kd.at_string (Kd.R_reads' HO_5.out).2.2 x7_3 p186 q186
                                      obtain rfl : ad185 = ad186 := (by injection e186)
                                      replace p186 := eq_true p186
                                      replace q186 := eq_true q186
                                      go_wp2
                                      repeat (go_quiet (fail); try go_wp2)
                                      go_roundg k3
                                      case measure => have := HJ2.out; have := HK2.out; have := HK3.out; omega
                                      case rel => exact ⟨(wrap64 (x7_3 + 1)), (by first | rfl | (simp; done) | (simp [*]; done)), H', ⟨by have := HJ2.out; have := HK2.out; have := HK3.out; omega⟩, ⟨by (with_reducible repeat (first | apply Kd.R_alloc | apply Kd.R_drewN | apply Kd.R_drew)); exact HO_5.out⟩, ⟨by repeat (first | (with_reducible first | exact HB.out | apply below_alloc | apply pw_below_drewN | apply below_drew1) | exact HB.out)⟩⟩
                                  · rw [if_neg c38] at H
                                    exact absurd H (by simp)
                                · rw [if_neg c37] at H
                                  exact absurd H (by simp)
                              · rw [if_neg c36] at H
                                exact absurd H (by simp)
                            · rw [if_neg c35] at H
                              exact absurd H (by simp)
                      · rw [if_neg c22] at H
                        have c22b0 : (x6_2 == 1) = false := beq_eq_false_iff_ne.mpr c22
                        have c22b1 : (x6_2 != 1) = true := bne_iff_ne.mpr c22
                        by_cases c40 : x6_2 = 3
                        · rw [if_pos c40] at H
                          have c40b0 : (x6_2 == 3) = true := beq_iff_eq.mpr c40
                          have c40b1 : (x6_2 != 3) = false := bne_eq_false_iff_eq.mpr c40
                          clear c40
                          by_cases c41 : 0 ≤ x6_2
                          · rw [if_pos c41] at H
                            have c41b0 : decide (0 ≤ x6_2) = true := decide_eq_true c41
                            clear c41
                            by_cases c42 : x6_2 < (y177.length : Int)
                            · rw [if_pos c42] at H
                              have c42b0 : decide (x6_2 < (y177.length : Int)) = true := decide_eq_true c42
                              clear c42
                              by_cases c43 : 0 ≤ x7_3
                              · rw [if_pos c43] at H
                                have c43b0 : decide (0 ≤ x7_3) = true := decide_eq_true c43
                                clear c43
                                by_cases c44 : x7_3 < (y177.length : Int)
                                · rw [if_pos c44] at H
                                  have c44b0 : decide (x7_3 < (y177.length : Int)) = true := decide_eq_true c44
                                  clear c44
                                  by_cases c45 : (((rdOf ByteArray.empty y177 x6_2).toList == (rdOf ByteArray.empty y177 x7_3).toList) != (x7_3 == 2)) = true
                                  · rw [if_pos c45] at H
                                    have c45b0 : (((rdOf ByteArray.empty y177 x6_2).toList == (rdOf ByteArray.empty y177 x7_3).toList) != (x7_3 == 2)) = true := c45
                                    (try (have c45b1 : decide (((rdOf ByteArray.empty y177 x6_2).toList == (rdOf ByteArray.empty y177 x7_3).toList) = (x7_3 == 2)) = false := by simpa using c45))
                                    (try (have c45b2 : (((rdOf ByteArray.empty y177 x6_2).toList == (rdOf ByteArray.empty y177 x7_3).toList) == (x7_3 == 2)) = false := by simpa using c45))
                                    (try (have c45b3 : ¬ (((rdOf ByteArray.empty y177 x6_2).toList == (rdOf ByteArray.empty y177 x7_3).toList) = (x7_3 == 2)) := by simpa using c45))
                                    clear c45
                                    obtain rfl := Option.some.inj H
                                    have p187 : 0 ≤ (x6_2 : Int) := of_decide_eq_true (by first | (with_reducible assumption) | assumption)
                                    have q187 : x6_2 < (y177.length : Int) := of_decide_eq_true (by first | (with_reducible assumption) | assumption)
                                    obtain ⟨ad187, e187, hx187_0⟩ := Kd.at_string (Kd.R_reads' HO_5.out).2.2 x6_2 p187 q187
                                    cases e187
                                    replace p187 := eq_true p187
                                    replace q187 := eq_true q187
                                    have p188 : 0 ≤ (x7_3 : Int) := of_decide_eq_true (by first | (with_reducible assumption) | assumption)
                                    have q188 : x7_3 < (y177.length : Int) := of_decide_eq_true (by first | (with_reducible assumption) | assumption)
                                    obtain ⟨ad188, e188, hx188_0⟩ := Kd.at_string (Kd.R_reads' HO_5.out).2.2 x7_3 p188 q188
                                    obtain rfl : ad187 = ad188 := (by injection e188)
                                    replace p188 := eq_true p188
                                    replace q188 := eq_true q188
                                    go_wp2
                                    repeat (go_quiet (fail); try go_wp2)
                                    go_ret
                                    exact ⟨by first | rfl | (simp [errW_none, errW_some] <;> rfl) | (simp [*, errW_none, errW_some] <;> rfl), by repeat (first | (with_reducible first | exact HB.out | apply below_alloc | apply pw_below_drewN | apply below_drew1) | exact HB.out)⟩
                                  · rw [if_neg c45] at H
                                    have c45b0 : (((rdOf ByteArray.empty y177 x6_2).toList == (rdOf ByteArray.empty y177 x7_3).toList) != (x7_3 == 2)) = false := by simpa using c45
                                    (try (have c45b1 : decide (((rdOf ByteArray.empty y177 x6_2).toList == (rdOf ByteArray.empty y177 x7_3).toList) = (x7_3 == 2)) = true := by simpa using c45))
                                    (try (have c45b2 : (((rdOf ByteArray.empty y177 x6_2).toList == (rdOf ByteArray.empty y177 x7_3).toList) == (x7_3 == 2)) = true := by simpa using c45))
                                    clear c45
                                    have H' := Aside0.mk H
                                    clear H
                                    have p187 : 0 ≤ (x6_2 : Int) := of_decide_eq_true (by first | (with_reducible assumption) | assumption)
                                    have q187 : x6_2 < (y177.length : Int) := of_decide_eq_true (by first | (with_reducible assumption) | assumption)
                                    obtain ⟨ad187, e187, hx187_0⟩ := Kd.at_string (Kd.R_reads' HO_5.out).2.2 x6_2 p187 q187
                                    cases e187
                                    replace p187 := eq_true p187
                                    replace q187 := eq_true q187
                                    have p188 : 0 ≤ (x7_3 : Int) := of_decide_eq_true (by first | (with_reducible assumption) | assumption)
                                    have q188 : x7_3 < (y177.length : Int) := of_decide_eq_true (by first | (with_reducible assumption) | assumption)
                                    obtain ⟨ad188, e188, hx188_0⟩ := Kd.at_string (Kd.R_reads' HO_5.out).2.2 x7_3 p188 q188
                                    obtain rfl : ad187 = ad188 := (by injection e188)
                                    replace p188 := eq_true p188
                                    replace q188 := eq_true q188
                                    go_wp2
                                    repeat (go_quiet (fail); try go_wp2)
                                    go_roundg k3
                                    case measure => have := HJ2.out; have := HK2.out; have := HK3.out; omega
                                    case rel => exact ⟨(wrap64 (x7_3 + 1)), (by first | rfl | (simp; done) | (simp [*]; done)), H', ⟨by have := HJ2.out; have := HK2.out; have := HK3.out; omega⟩, ⟨by (with_reducible repeat (first | apply Kd.R_alloc | apply Kd.R_drewN | apply Kd.R_drew)); exact HO_5.out⟩, ⟨by repeat (first | (with_reducible first | exact HB.out | apply below_alloc | apply pw_below_drewN | apply below_drew1) | exact HB.out)⟩⟩
                                · rw [if_neg c44] at H
                                  exact absurd H (by simp)
                              · rw [if_neg c43] at H
                                exact absurd H (by simp)
                            · rw [if_neg c42] at H
                              exact absurd H (by simp)
                          · rw [if_neg c41] at H
                            exact absurd H (by simp)
                        · rw [if_neg c40] at H
                          have c40b0 : (x6_2 == 3) = false := beq_eq_false_iff_ne.mpr c40
                          have c40b1 : (x6_2 != 3) = true := bne_iff_ne.mpr c40
                          by_cases c46 : 0 ≤ x6_2
                          · rw [if_pos c46] at H
                            have c46b0 : decide (0 ≤ x6_2) = true := decide_eq_true c46
                            clear c46
                            by_cases c47 : x6_2 < (y177.length : Int)
                            · rw [if_pos c47] at H
                              have c47b0 : decide (x6_2 < (y177.length : Int)) = true := decide_eq_true c47
                              clear c47
                              by_cases c48 : 0 ≤ x7_3
                              · rw [if_pos c48] at H
                                have c48b0 : decide (0 ≤ x7_3) = true := decide_eq_true c48
                                clear c48
                                by_cases c49 : x7_3 < (y177.length : Int)
                                · rw [if_pos c49] at H
                                  have c49b0 : decide (x7_3 < (y177.length : Int)) = true := decide_eq_true c49
                                  clear c49
                                  by_cases c50 : (((rdOf ByteArray.empty y177 x6_2).toList == (rdOf ByteArray.empty y177 x7_3).toList) != false) = true
                                  · rw [if_pos c50] at H
                                    have c50b0 : (((rdOf ByteArray.empty y177 x6_2).toList == (rdOf ByteArray.empty y177 x7_3).toList) != false) = true := c50
                                    (try (have c50b1 : decide (((rdOf ByteArray.empty y177 x6_2).toList == (rdOf ByteArray.empty y177 x7_3).toList) = false) = false := by simpa using c50))
                                    (try (have c50b2 : (((rdOf ByteArray.empty y177 x6_2).toList == (rdOf ByteArray.empty y177 x7_3).toList) == false) = false := by simpa using c50))
                                    (try (have c50b3 : ¬ (((rdOf ByteArray.empty y177 x6_2).toList == (rdOf ByteArray.empty y177 x7_3).toList) = false) := by simpa using c50))
                                    clear c50
                                    obtain rfl := Option.some.inj H
                                    have p189 : 0 ≤ (x6_2 : Int) := of_decide_eq_true (by first | (with_reducible assumption) | assumption)
                                    have q189 : x6_2 < (y177.length : Int) := of_decide_eq_true (by first | (with_reducible assumption) | assumption)
                                    obtain ⟨ad189, e189, hx189_0⟩ := Kd.at_string (Kd.R_reads' HO_5.out).2.2 x6_2 p189 q189
                                    cases e189
                                    replace p189 := eq_true p189
                                    replace q189 := eq_true q189
                                    have p190 : 0 ≤ (x7_3 : Int) := of_decide_eq_true (by first | (with_reducible assumption) | assumption)
                                    have q190 : x7_3 < (y177.length : Int) := of_decide_eq_true (by first | (with_reducible assumption) | assumption)
                                    obtain ⟨ad190, e190, hx190_0⟩ := Kd.at_string (Kd.R_reads' HO_5.out).2.2 x7_3 p190 q190
                                    obtain rfl : ad189 = ad190 := (by injection e190)
                                    replace p190 := eq_true p190
                                    replace q190 := eq_true q190
                                    go_wp2
                                    repeat (go_quiet (fail); try go_wp2)
                                    go_ret
                                    exact ⟨by first | rfl | (simp [errW_none, errW_some] <;> rfl) | (simp [*, errW_none, errW_some] <;> rfl), by repeat (first | (with_reducible first | exact HB.out | apply below_alloc | apply pw_below_drewN | apply below_drew1) | exact HB.out)⟩
                                  · rw [if_neg c50] at H
                                    have c50b0 : (((rdOf ByteArray.empty y177 x6_2).toList == (rdOf ByteArray.empty y177 x7_3).toList) != false) = false := by simpa using c50
                                    (try (have c50b1 : decide (((rdOf ByteArray.empty y177 x6_2).toList == (rdOf ByteArray.empty y177 x7_3).toList) = false) = true := by simpa using c50))
                                    (try (have c50b2 : (((rdOf ByteArray.empty y177 x6_2).toList == (rdOf ByteArray.empty y177 x7_3).toList) == false) = true := by simpa using c50))
                                    clear c50
                                    have H' := Aside0.mk H
                                    clear H
                                    have p189 : 0 ≤ (x6_2 : Int) := of_decide_eq_true (by first | (with_reducible assumption) | assumption)
                                    have q189 : x6_2 < (y177.length : Int) := of_decide_eq_true (by first | (with_reducible assumption) | assumption)
                                    obtain ⟨ad189, e189, hx189_0⟩ := Kd.at_string (Kd.R_reads' HO_5.out).2.2 x6_2 p189 q189
                                    cases e189
                                    replace p189 := eq_true p189
                                    replace q189 := eq_true q189
                                    have p190 : 0 ≤ (x7_3 : Int) := of_decide_eq_true (by first | (with_reducible assumption) | assumption)
                                    have q190 : x7_3 < (y177.length : Int) := of_decide_eq_true (by first | (with_reducible assumption) | assumption)
                                    obtain ⟨ad190, e190, hx190_0⟩ := Kd.at_string (Kd.R_reads' HO_5.out).2.2 x7_3 p190 q190
                                    obtain rfl : ad189 = ad190 := (by injection e190)
                                    replace p190 := eq_true p190
                                    replace q190 := eq_true q190
                                    go_wp2
                                    repeat (go_quiet (fail); try go_wp2)
                                    go_roundg k3
                                    case measure => have := HJ2.out; have := HK2.out; have := HK3.out; omega
                                    case rel => exact ⟨(wrap64 (x7_3 + 1)), (by first | rfl | (simp; done) | (simp [*]; done)), H', ⟨by have := HJ2.out; have := HK2.out; have := HK3.out; omega⟩, ⟨by (with_reducible repeat (first | apply Kd.R_alloc | apply Kd.R_drewN | apply Kd.R_drew)); exact HO_5.out⟩, ⟨by repeat (first | (with_reducible first | exact HB.out | apply below_alloc | apply pw_below_drewN | apply below_drew1) | exact HB.out)⟩⟩
                                · rw [if_neg c49] at H
                                  exact absurd H (by simp)
                              · rw [if_neg c48] at H
                                exact absurd H (by simp)
                            · rw [if_neg c47] at H
                              exact absurd H (by simp)
                          · rw [if_neg c46] at H
                            exact absurd H (by simp)
                    · rw [if_neg c21] at H
                      have c21b0 : (a0 == a1) = false := beq_eq_false_iff_ne.mpr c21
                      have c21b1 : (a0 != a1) = true := bne_iff_ne.mpr c21
                      by_cases c51 : 0 ≤ x6_2
                      · rw [if_pos c51] at H
                        have c51b0 : decide (0 ≤ x6_2) = true := decide_eq_true c51
                        clear c51
                        by_cases c52 : x6_2 < (y177.length : Int)
                        · rw [if_pos c52] at H
                          have c52b0 : decide (x6_2 < (y177.length : Int)) = true := decide_eq_true c52
                          clear c52
                          by_cases c53 : 0 ≤ x7_3
                          · rw [if_pos c53] at H
                            have c53b0 : decide (0 ≤ x7_3) = true := decide_eq_true c53
                            clear c53
                            by_cases c54 : x7_3 < (y177.length : Int)
                            · rw [if_pos c54] at H
                              have c54b0 : decide (x7_3 < (y177.length : Int)) = true := decide_eq_true c54
                              clear c54
                              by_cases c55 : (((rdOf ByteArray.empty y177 x6_2).toList == (rdOf ByteArray.empty y177 x7_3).toList) != false) = true
                              · rw [if_pos c55] at H
                                have c55b0 : (((rdOf ByteArray.empty y177 x6_2).toList == (rdOf ByteArray.empty y177 x7_3).toList) != false) = true := c55
                                (try (have c55b1 : decide (((rdOf ByteArray.empty y177 x6_2).toList == (rdOf ByteArray.empty y177 x7_3).toList) = false) = false := by simpa using c55))
                                (try (have c55b2 : (((rdOf ByteArray.empty y177 x6_2).toList == (rdOf ByteArray.empty y177 x7_3).toList) == false) = false := by simpa using c55))
                                (try (have c55b3 : ¬ (((rdOf ByteArray.empty y177 x6_2).toList == (rdOf ByteArray.empty y177 x7_3).toList) = false) := by simpa using c55))
                                clear c55
                                obtain rfl := Option.some.inj H
                                have p191 : 0 ≤ (x6_2 : Int) := of_decide_eq_true (by first | (with_reducible assumption) | assumption)
                                have q191 : x6_2 < (y177.length : Int) := of_decide_eq_true (by first | (with_reducible assumption) | assumption)
                                obtain ⟨ad191, e191, hx191_0⟩ := Kd.at_string (Kd.R_reads' HO_5.out).2.2 x6_2 p191 q191
                                cases e191
                                replace p191 := eq_true p191
                                replace q191 := eq_true q191
                                have p192 : 0 ≤ (x7_3 : Int) := of_decide_eq_true (by first | (with_reducible assumption) | assumption)
                                have q192 : x7_3 < (y177.length : Int) := of_decide_eq_true (by first | (with_reducible assumption) | assumption)
                                obtain ⟨ad192, e192, hx192_0⟩ := Kd.at_string (Kd.R_reads' HO_5.out).2.2 x7_3 p192 q192
                                obtain rfl : ad191 = ad192 := (by injection e192)
                                replace p192 := eq_true p192
                                replace q192 := eq_true q192
                                go_wp2
                                repeat (go_quiet (fail); try go_wp2)
                                go_ret
                                exact ⟨by first | rfl | (simp [errW_none, errW_some] <;> rfl) | (simp [*, errW_none, errW_some] <;> rfl), by repeat (first | (with_reducible first | exact HB.out | apply below_alloc | apply pw_below_drewN | apply below_drew1) | exact HB.out)⟩
                              · rw [if_neg c55] at H
                                have c55b0 : (((rdOf ByteArray.empty y177 x6_2).toList == (rdOf ByteArray.empty y177 x7_3).toList) != false) = false := by simpa using c55
                                (try (have c55b1 : decide (((rdOf ByteArray.empty y177 x6_2).toList == (rdOf ByteArray.empty y177 x7_3).toList) = false) = true := by simpa using c55))
                                (try (have c55b2 : (((rdOf ByteArray.empty y177 x6_2).toList == (rdOf ByteArray.empty y177 x7_3).toList) == false) = true := by simpa using c55))
                                clear c55
                                have H' := Aside0.mk H
                                clear H
                                have p191 : 0 ≤ (x6_2 : Int) := of_decide_eq_true (by first | (with_reducible assumption) | assumption)
                                have q191 : x6_2 < (y177.length : Int) := of_decide_eq_true (by first | (with_reducible assumption) | assumption)
                                obtain ⟨ad191, e191, hx191_0⟩ := Kd.at_string (Kd.R_reads' HO_5.out).2.2 x6_2 p191 q191
                                cases e191
                                replace p191 := eq_true p191
                                replace q191 := eq_true q191
                                have p192 : 0 ≤ (x7_3 : Int) := of_decide_eq_true (by first | (with_reducible assumption) | assumption)
                                have q192 : x7_3 < (y177.length : Int) := of_decide_eq_true (by first | (with_reducible assumption) | assumption)
                                obtain ⟨ad192, e192, hx192_0⟩ := Kd.at_string (Kd.R_reads' HO_5.out).2.2 x7_3 p192 q192
                                obtain rfl : ad191 = ad192 := (by injection e192)
                                replace p192 := eq_true p192
                                replace q192 := eq_true q192
                                go_wp2
                                repeat (go_quiet (fail); try go_wp2)
                                go_roundg k3
                                case measure => have := HJ2.out; have := HK2.out; have := HK3.out; omega
                                case rel => exact ⟨(wrap64 (x7_3 + 1)), (by first | rfl | (simp; done) | (simp [*]; done)), H', ⟨by have := HJ2.out; have := HK2.out; have := HK3.out; omega⟩, ⟨by (with_reducible repeat (first | apply Kd.R_alloc | apply Kd.R_drewN | apply Kd.R_drew)); exact HO_5.out⟩, ⟨by repeat (first | (with_reducible first | exact HB.out | apply below_alloc | apply pw_below_drewN | apply below_drew1) | exact HB.out)⟩⟩
                            · rw [if_neg c54] at H
                              exact absurd H (by simp)
                          · rw [if_neg c53] at H
                            exact absurd H (by simp)
                        · rw [if_neg c52] at H
                          exact absurd H (by simp)
                      · rw [if_neg c51] at H
                        exact absurd H (by simp)
                  · rw [if_neg c20] at H
                    have c20b0 : decide (x7_3 < x6_2) = false := decide_eq_false c20
                    clear c20
                    by_cases c56 : 0 ≤ x6_2
                    · rw [if_pos c56] at H
                      have c56b0 : decide (0 ≤ x6_2) = true := decide_eq_true c56
                      clear c56
                      by_cases c57 : x6_2 < (y177.length : Int)
                      · rw [if_pos c57] at H
                        have c57b0 : decide (x6_2 < (y177.length : Int)) = true := decide_eq_true c57
                        clear c57
                        by_cases c58 : ((rdOf ByteArray.empty y177 x6_2).size : Int) < 1
                        · rw [if_pos c58] at H
                          have c58b0 : decide (((rdOf ByteArray.empty y177 x6_2).size : Int) < 1) = true := decide_eq_true c58
                          have c58b1 : decide ((rdOf ByteArray.empty y177 x6_2).size < 1) = true := decide_eq_true (by omega)
                          clear c58
                          obtain rfl := Option.some.inj H
                          have p193 : 0 ≤ (x6_2 : Int) := of_decide_eq_true (by first | (with_reducible assumption) | assumption)
                          have q193 : x6_2 < (y177.length : Int) := of_decide_eq_true (by first | (with_reducible assumption) | assumption)
                          obtain ⟨ad193, e193, hx193_0⟩ := Kd.at_string (Kd.R_reads' HO_5.out).2.2 x6_2 p193 q193
                          cases e193
                          replace p193 := eq_true p193
                          replace q193 := eq_true q193
                          go_wp2
                          repeat (go_quiet (fail); try go_wp2)
                          go_ret
                          exact ⟨by first | rfl | (simp [errW_none, errW_some] <;> rfl) | (simp [*, errW_none, errW_some] <;> rfl), by repeat (first | (with_reducible first | exact HB.out | apply below_alloc | apply pw_below_drewN | apply below_drew1) | exact HB.out)⟩
                        · rw [if_neg c58] at H
                          have c58b0 : decide (((rdOf ByteArray.empty y177 x6_2).size : Int) < 1) = false := decide_eq_false c58
                          have c58b1 : decide ((rdOf ByteArray.empty y177 x6_2).size < 1) = false := decide_eq_false (by omega)
                          clear c58
                          by_cases c59 : ((rdOf ByteArray.empty y177 x6_2).size : Int) > 32
                          · rw [if_pos c59] at H
                            have c59b0 : decide (32 < ((rdOf ByteArray.empty y177 x6_2).size : Int)) = true := decide_eq_true c59
                            have c59b1 : decide (32 < (rdOf ByteArray.empty y177 x6_2).size) = true := decide_eq_true (by omega)
                            clear c59
                            obtain rfl := Option.some.inj H
                            have p193 : 0 ≤ (x6_2 : Int) := of_decide_eq_true (by first | (with_reducible assumption) | assumption)
                            have q193 : x6_2 < (y177.length : Int) := of_decide_eq_true (by first | (with_reducible assumption) | assumption)
                            obtain ⟨ad193, e193, hx193_0⟩ := Kd.at_string (Kd.R_reads' HO_5.out).2.2 x6_2 p193 q193
                            cases e193
                            replace p193 := eq_true p193
                            replace q193 := eq_true q193
                            have p194 : 0 ≤ (x6_2 : Int) := of_decide_eq_true (by first | (with_reducible assumption) | assumption)
                            have q194 : x6_2 < (y177.length : Int) := of_decide_eq_true (by first | (with_reducible assumption) | assumption)
                            obtain ⟨ad194, e194, hx194_0⟩ := Kd.at_string (Kd.R_reads' HO_5.out).2.2 x6_2 p194 q194
                            obtain rfl : ad193 = ad194 := (by injection e194)
                            replace p194 := eq_true p194
                            replace q194 := eq_true q194
                            go_wp2
                            repeat (go_quiet (fail); try go_wp2)
                            go_ret
                            exact ⟨by first | rfl | (simp [errW_none, errW_some] <;> rfl) | (simp [*, errW_none, errW_some] <;> rfl), by repeat (first | (with_reducible first | exact HB.out | apply below_alloc | apply pw_below_drewN | apply below_drew1) | exact HB.out)⟩
                          · rw [if_neg c59] at H
                            have c59b0 : decide (32 < ((rdOf ByteArray.empty y177 x6_2).size : Int)) = false := decide_eq_false c59
                            have c59b1 : decide (32 < (rdOf ByteArray.empty y177 x6_2).size) = false := decide_eq_false (by omega)
                            clear c59
                            have H' := Aside0.mk H
                            clear H
                            have p193 : 0 ≤ (x6_2 : Int) := of_decide_eq_true (by first | (with_reducible assumption) | assumption)
                            have q193 : x6_2 < (y177.length : Int) := of_decide_eq_true (by first | (with_reducible assumption) | assumption)
                            obtain ⟨ad193, e193, hx193_0⟩ := Kd.at_string (Kd.R_reads' HO_5.out).2.2 x6_2 p193 q193
                            cases e193
                            replace p193 := eq_true p193
                            replace q193 := eq_true q193
                            have p194 : 0 ≤ (x6_2 : Int) := of_decide_eq_true (by first | (with_reducible assumption) | assumption)
                            have q194 : x6_2 < (y177.length : Int) := of_decide_eq_true (by first | (with_reducible assumption) | assumption)
                            obtain ⟨ad194, e194, hx194_0⟩ := Kd.at_string (Kd.R_reads' HO_5.out).2.2 x6_2 p194 q194
                            obtain rfl : ad193 = ad194 := (by injection e194)
                            replace p194 := eq_true p194
                            replace q194 := eq_true q194
                            go_wp2
                            repeat (go_quiet (fail); try go_wp2)
                            go_roundg k3
                            case measure => have := HJ2.out; have := HK2.out; have := HK3.out; omega
                            case rel => exact ⟨(wrap64 (x6_2 + 1)), (by first | rfl | (simp; done) | (simp [*]; done)), H', ⟨by have := HJ2.out; have := HK2.out; have := HK3.out; omega⟩, ⟨by (with_reducible repeat (first | apply Kd.R_alloc | apply Kd.R_drewN | apply Kd.R_drew)); exact HO_5.out⟩, ⟨by repeat (first | (with_reducible first | exact HB.out | apply below_alloc | apply pw_below_drewN | apply below_drew1) | exact HB.out)⟩⟩
                      · rw [if_neg c57] at H
                        exact absurd H (by simp)
                    · rw [if_neg c56] at H
                      exact absurd H (by simp)
            · rw [if_neg c18] at H
              have c18b0 : decide (x6_2 < (y177.length : Int)) = false := decide_eq_false c18
              clear c18
              replace H := Option.bind_eq_some_iff.mp H
              obtain ⟨t180, A600, H⟩ := H
              replace H : (some t180) = some r := H
              have A60 := Aside0.mk A600
              clear A600
              obtain rfl := Option.some.inj H
              obtain ⟨Ao61, co61, eo61⟩ := Kd.R_slice HO_5.out
              subst eo61
              go_wp2_with (first | (go_at_call 9; (with_reducible refine (n_awake.calls  t180 _ ?side1 A60.out).mono ?_); (case side1 => exact NamT.of_below HG.out (by repeat (first | (with_reducible first | exact HB.out | apply below_alloc | apply pw_below_drewN | apply below_drew1) | exact HB.out))); rintro e w62 ⟨rfl, hb⟩; have n0_ := Aside0.mk (Kd.R_below (by (with_reducible repeat (first | apply Kd.R_alloc | apply Kd.R_drewN | apply Kd.R_drew)); exact HO_5.out) hb); have n1_ := Aside0.mk (below_step (by repeat (first | (with_reducible first | exact HB.out | apply below_alloc | apply pw_below_drewN | apply below_drew1) | exact HB.out)) hb); clear HO_5; clear HB; have HO_5 := n0_; have HB := n1_; clear n0_ n1_; (try clear hb); (try clear hb2); (try clear hk); (try clear hi)))
              repeat (go_quiet (first | (go_at_call 9; (with_reducible refine (n_awake.calls  t180 _ ?side1 A60.out).mono ?_); (case side1 => exact NamT.of_below HG.out (by repeat (first | (with_reducible first | exact HB.out | apply below_alloc | apply pw_below_drewN | apply below_drew1) | exact HB.out))); rintro e w62 ⟨rfl, hb⟩; have n0_ := Aside0.mk (Kd.R_below (by (with_reducible repeat (first | apply Kd.R_alloc | apply Kd.R_drewN | apply Kd.R_drew)); exact HO_5.out) hb); have n1_ := Aside0.mk (below_step (by repeat (first | (with_reducible first | exact HB.out | apply below_alloc | apply pw_below_drewN | apply below_drew1) | exact HB.out)) hb); clear HO_5; clear HB; have HO_5 := n0_; have HB := n1_; clear n0_ n1_; (try clear hb); (try clear hb2); (try clear hk); (try clear hi))); try go_wp2_with (first | (go_at_call 9; (with_reducible refine (n_awake.calls  t180 _ ?side1 A60.out).mono ?_); (case side1 => exact NamT.of_below HG.out (by repeat (first | (with_reducible first | exact HB.out | apply below_alloc | apply pw_below_drewN | apply below_drew1) | exact HB.out))); rintro e w62 ⟨rfl, hb⟩; have n0_ := Aside0.mk (Kd.R_below (by (with_reducible repeat (first | apply Kd.R_alloc | apply Kd.R_drewN | apply Kd.R_drew)); exact HO_5.out) hb); have n1_ := Aside0.mk (below_step (by repeat (first | (with_reducible first | exact HB.out | apply below_alloc | apply pw_below_drewN | apply below_drew1) | exact HB.out)) hb); clear HO_5; clear HB; have HO_5 := n0_; have HB := n1_; clear n0_ n1_; (try clear hb); (try clear hb2); (try clear hk); (try clear hi))))
              go_ret
              exact ⟨by first | rfl | (simp [errW_none, errW_some] <;> rfl) | (simp [*, errW_none, errW_some] <;> rfl), by repeat (first | (with_reducible first | exact HB.out | apply below_alloc | apply pw_below_drewN | apply below_drew1) | exact HB.out)⟩

/-- THE ONE PURE STATEMENT of estreatlaw26_ManifestNames: yours. -/
def estreatlaw26_ManifestNames.Pure : Prop := ∀ (a0 : Int) (a1 : Int), (Lit.int .i64 a0).wf = true → (Lit.int .i64 a1).wf = true → ∃ k, estreatlaw26_ManifestNames.f k a0 a1 = some true
theorem estreatlaw26_ManifestNames.walk (P : estreatlaw26_ManifestNames.Pure) (a0 : Int) (a1 : Int) (w : World) (w0 : (Lit.int .i64 a0).wf = true) (w1 : (Lit.int .i64 a1).wf = true) (hG : NamT w) :
    Calls Tryz.prog 6 #[.int .i64 a0, .int .i64 a1] w fun e w' => e = .returned (.bool true) ∧ Below w.heap.size w w' := by
  obtain ⟨k, h⟩ := P a0 a1 w0 w1
  refine (estreatlaw26_ManifestNames.calls k a0 a1 true w hG h).mono ?_
  rintro e w' ⟨rfl, hd⟩
  exact ⟨rfl, hd⟩

end Go.Proofs.YtjmhiklmlgbifaaGreatDoor.PMan
end
section
/- Names of unlike numbers are unlike, and none is another kind's; all of them are 1 to 32 bytes long. -/
namespace Go.Proofs.YtjmhiklmlgbifaaGreatDoor.Pure
open Go.RowKit Go.Proofs.YtjmhiklmlgbifaaGreatDoor.PMan Go.Proofs.YtjmhiklmlgbifaaGreatDoorW.PrintWords Go.Proofs.YtjmhiklmlgbifaaGreatDoorW.PrintLast

theorem digit_inj {a b : Nat} (ha : a < 10) (hb : b < 10) (h : UInt8.ofNat (48 + a) = UInt8.ofNat (48 + b)) : a = b := by
  have := congrArg UInt8.toNat h
  simp at this
  omega
/-- Unlike numbers have unlike numerals. -/
theorem decDigits_inj : ∀ (u v : Nat), Lib.decDigits u = Lib.decDigits v → u = v := by
  intro u
  induction u using Nat.strongRecOn with
  | _ u ih =>
    intro v h
    rw [Lib.decDigits, Lib.decDigits.eq_def v] at h
    by_cases hu : u < 10
    · by_cases hv : v < 10
      · rw [dif_pos hu, dif_pos hv] at h
        exact digit_inj hu hv (List.cons.inj h).1
      · rw [dif_pos hu, dif_neg hv] at h
        have hl := congrArg List.length h
        have := Lib.nDigits_pos (v / 10)
        rw [List.length_append, Lib.decDigits_length] at hl
        simp at hl
        omega
    · by_cases hv : v < 10
      · rw [dif_neg hu, dif_pos hv] at h
        have hl := congrArg List.length h
        have := Lib.nDigits_pos (u / 10)
        rw [List.length_append, Lib.decDigits_length] at hl
        simp at hl
        omega
      · rw [dif_neg hu, dif_neg hv] at h
        obtain ⟨h1, h2⟩ := List.append_inj' h rfl
        have e1 := ih (u / 10) (by omega) (v / 10) h1
        have e2 := digit_inj (by omega) (by omega) (List.cons.inj h2).1
        omega
theorem itoa_inj {a b : Int} (ha : 0 ≤ a) (hb : 0 ≤ b) (h : Lib.itoa a = Lib.itoa b) : a = b := by
  rw [Lib.itoa, if_neg (by omega), Lib.itoa, if_neg (by omega)] at h
  have := decDigits_inj _ _ h
  omega

def Eb (x y : ByteArray) : Bool := x.toList == y.toList
theorem Eb_data (x y : ByteArray) : Eb x y = decide (x.data.toList = y.data.toList) := by
  unfold Eb
  rw [ByteArray.toList_eq, ByteArray.toList_eq]
  by_cases h : x.data.toList = y.data.toList
  · rw [h]; simp
  · rw [decide_eq_false h]
    exact beq_eq_false_iff_ne.2 h
theorem cat_data (p l : List UInt8) : ((⟨p.toArray⟩ : ByteArray) ++ ⟨l.toArray⟩).data.toList = p ++ l := by
  rw [ByteArray.data_append]
  simp
theorem cat_size (p l : List UInt8) : ((⟨p.toArray⟩ : ByteArray) ++ ⟨l.toArray⟩).size = p.length + l.length := by
  rw [ByteArray.size_append]
  simp [ByteArray.size]

/-- The two pairs that may be alike. -/
def twin (a b : Int) (i k : Nat) : Bool := decide (a = b) && ((i == 1 && k == 0) || (i == 3 && k == 2))
def at_ (l : List ByteArray) (i : Nat) : ByteArray := l.getD i ByteArray.empty
theorem rdOf_at (l : List ByteArray) (i : Nat) : rdOf ByteArray.empty l (i : Int) = at_ l i := by
  simp [rdOf, at_]

theorem one (k : Nat) (a b : Int) (l : List ByteArray) (i j : Nat) (hl : l.length < 1000) (h1 : j < i) (h2 : i < l.length) (hE : Eb (at_ l i) (at_ l j) = twin a b i j) :
    estreatlaw26_ManifestNames.l1 (k + 1) a b l (i : Int) (j : Int) = estreatlaw26_ManifestNames.l1 k a b l (i : Int) ((j + 1 : Nat) : Int) := by
  have w : wrap64 ((j : Int) + 1) = ((j + 1 : Nat) : Int) := by unfold wrap64; omega
  have c1 : (j : Int) < (i : Int) := by omega
  have c2 : (0 : Int) ≤ (i : Int) := by omega
  have c3 : (i : Int) < (l.length : Int) := by omega
  have c4 : (0 : Int) ≤ (j : Int) := by omega
  have c5 : (j : Int) < (l.length : Int) := by omega
  rw [estreatlaw26_ManifestNames.l1]
  simp only [rdOf_at, if_pos c1, if_pos c2, if_pos c3, if_pos c4, if_pos c5, w]
  rw [show ((at_ l i).toList == (at_ l j).toList) = twin a b i j from hE]
  generalize estreatlaw26_ManifestNames.l1 k a b l (i : Int) ((j + 1 : Nat) : Int) = R
  unfold twin
  by_cases hab : a = b
  · by_cases q1 : i = 1
    · obtain rfl : j = 0 := by omega
      subst q1
      simp [hab]
    · by_cases q3 : i = 3
      · subst q3
        by_cases q2 : j = 2
        · subst q2; simp [hab]
        · have : ¬ ((j : Int) == 2) = true := by simp; omega
          simp [hab, q2, this]
      · have n1 : ¬ (i : Int) = 1 := by omega
        have n3 : ¬ (i : Int) = 3 := by omega
        simp [hab, q1, q3, n1, n3]
  · simp [hab]

theorem row (k : Nat) (a b : Int) (l : List ByteArray) (i : Nat) (hl : l.length < 1000) (h2 : i < l.length) (hE : ∀ j, j < i → Eb (at_ l i) (at_ l j) = twin a b i j) (hs : 1 ≤ (at_ l i).size ∧ (at_ l i).size ≤ 32) :
    ∀ n j, j + n = i → estreatlaw26_ManifestNames.l1 (n + 1 + k) a b l (i : Int) (j : Int) = estreatlaw26_ManifestNames.l0 k a b l ((i + 1 : Nat) : Int)
  | 0, j, e => by
    obtain rfl : j = i := by omega
    have w : wrap64 ((j : Int) + 1) = ((j + 1 : Nat) : Int) := by unfold wrap64; omega
    rw [Nat.zero_add, Nat.add_comm 1 k, estreatlaw26_ManifestNames.l1, if_neg (by omega), if_pos (by omega), if_pos (by omega), rdOf_at, if_neg (by omega), if_neg (by omega), w]
  | n + 1, j, e => by
    rw [show n + 1 + 1 + k = (n + 1 + k) + 1 by omega, one (n + 1 + k) a b l i j hl (by omega) h2 (hE j (by omega))]
    exact row k a b l i hl h2 hE hs n (j + 1) (by omega)

theorem all (a b : Int) (l : List ByteArray) (hl : l.length < 1000) (hE : ∀ i j, i < l.length → j < i → Eb (at_ l i) (at_ l j) = twin a b i j) (hs : ∀ i, i < l.length → 1 ≤ (at_ l i).size ∧ (at_ l i).size ≤ 32) :
    ∀ n i, i + n = l.length → ∃ k, estreatlaw26_ManifestNames.l0 k a b l (i : Int) = some true
  | 0, i, e => ⟨1, by rw [estreatlaw26_ManifestNames.l0, if_neg (by omega)]; rfl⟩
  | n + 1, i, e => by
    obtain ⟨k, hk⟩ := all a b l hl hE hs n (i + 1) (by omega)
    refine ⟨i + 1 + k + 1, ?_⟩
    rw [estreatlaw26_ManifestNames.l0, if_pos (by omega)]
    have := row k a b l i hl (by omega) (fun j hj => hE i j (by omega) hj) (hs i (by omega)) i 0 (by omega)
    rw [show ((0 : Nat) : Int) = 0 from rfl] at this
    rw [this, hk]

def logP : List UInt8 := [108, 111, 103, 45]
def groupP : List UInt8 := [103, 114, 111, 117, 112, 45]
def manP : List UInt8 := [109, 97, 110, 105, 102, 101, 115, 116]
def newP : List UInt8 := [109, 97, 110, 105, 102, 101, 115, 116, 46, 110, 101, 119]
def names (a b : Int) : List (List UInt8) := [logP ++ Lib.itoa a, logP ++ Lib.itoa b, groupP ++ Lib.itoa a, groupP ++ Lib.itoa b, manP, newP]

theorem pairs (a b : Int) (ha : 0 ≤ a) (hb : 0 ≤ b) (i j : Nat) (hi : i < 6) (hj : j < i) : decide ((names a b).getD i [] = (names a b).getD j []) = twin a b i j := by
  have hab : ∀ p : List UInt8, decide (p ++ Lib.itoa b = p ++ Lib.itoa a) = decide (a = b) := fun p => by
    by_cases h : a = b
    · subst h; simp
    · rw [decide_eq_false h, decide_eq_false]
      intro he
      exact h (itoa_inj hb ha (List.append_cancel_left he)).symm
  have c : i = 1 ∨ i = 2 ∨ i = 3 ∨ i = 4 ∨ i = 5 := by omega
  rcases c with rfl | rfl | rfl | rfl | rfl
  · obtain rfl : j = 0 := by omega
    have := hab logP
    simpa [twin, names] using this
  · have c : j = 0 ∨ j = 1 := by omega
    rcases c with rfl | rfl
    all_goals first
      | (have := hab groupP; simpa [twin, names] using this)
      | simp [twin, names, logP, groupP, manP, newP]
  · have c : j = 0 ∨ j = 1 ∨ j = 2 := by omega
    rcases c with rfl | rfl | rfl
    all_goals first
      | (have := hab groupP; simpa [twin, names] using this)
      | simp [twin, names, logP, groupP, manP, newP]
  · have c : j = 0 ∨ j = 1 ∨ j = 2 ∨ j = 3 := by omega
    rcases c with rfl | rfl | rfl | rfl
    all_goals first
      | (have := hab groupP; simpa [twin, names] using this)
      | simp [twin, names, logP, groupP, manP, newP]
  · have c : j = 0 ∨ j = 1 ∨ j = 2 ∨ j = 3 ∨ j = 4 := by omega
    rcases c with rfl | rfl | rfl | rfl | rfl
    all_goals first
      | (have := hab groupP; simpa [twin, names] using this)
      | simp [twin, names, logP, groupP, manP, newP]

theorem two (p l : List UInt8) (hp : 1 ≤ p.length ∧ p.length ≤ 11) (hl : l.length ≤ 21) : 1 ≤ (p ++ l).length ∧ (p ++ l).length ≤ 32 := by
  rw [List.length_append]
  omega
theorem ManifestNames (a b : Int) (wa : (Lit.int .i64 a).wf = true) (wb : (Lit.int .i64 b).wf = true) : ∃ k, estreatlaw26_ManifestNames.f k a b = some true := by
  have ra : -9223372036854775808 ≤ a ∧ a ≤ 9223372036854775807 := by
    simp [Lit.wf, IntKind.min, IntKind.max, IntKind.signed, IntKind.bits] at wa
    omega
  have rb : -9223372036854775808 ≤ b ∧ b ≤ 9223372036854775807 := by
    simp [Lit.wf, IntKind.min, IntKind.max, IntKind.signed, IntKind.bits] at wb
    omega
  unfold estreatlaw26_ManifestNames.f
  by_cases ha : a < 0
  · refine ⟨1, ?_⟩
    rw [if_pos ha, estreatlaw26_ManifestNames.j0, if_pos rfl]
    rfl
  · by_cases hb : b < 0
    · refine ⟨1, ?_⟩
      rw [if_neg ha, estreatlaw26_ManifestNames.j0, if_pos (decide_eq_true hb)]
      rfl
    · have la := Lib.itoa_length_le a ra.1 ra.2
      have lb := Lib.itoa_length_le b rb.1 rb.2
      obtain ⟨L, hL⟩ : ∃ L : List ByteArray, L = [(⟨#[108, 111, 103, 45]⟩ : ByteArray) ++ ⟨(Lib.itoa a).toArray⟩, (⟨#[108, 111, 103, 45]⟩ : ByteArray) ++ ⟨(Lib.itoa b).toArray⟩, (⟨#[103, 114, 111, 117, 112, 45]⟩ : ByteArray) ++ ⟨(Lib.itoa a).toArray⟩, (⟨#[103, 114, 111, 117, 112, 45]⟩ : ByteArray) ++ ⟨(Lib.itoa b).toArray⟩, (⟨#[109, 97, 110, 105, 102, 101, 115, 116]⟩ : ByteArray), (⟨#[109, 97, 110, 105, 102, 101, 115, 116, 46, 110, 101, 119]⟩ : ByteArray)] := ⟨_, rfl⟩
      have hlen : L.length = 6 := by rw [hL]; rfl
      have hdat : ∀ i, i < 6 → (at_ L i).data.toList = (names a b).getD i [] := by
        intro i hi
        have c : i = 0 ∨ i = 1 ∨ i = 2 ∨ i = 3 ∨ i = 4 ∨ i = 5 := by omega
        subst hL
        rcases c with rfl | rfl | rfl | rfl | rfl | rfl
        · exact cat_data logP (Lib.itoa a)
        · exact cat_data logP (Lib.itoa b)
        · exact cat_data groupP (Lib.itoa a)
        · exact cat_data groupP (Lib.itoa b)
        · rfl
        · rfl
      have hsz : ∀ i, i < 6 → 1 ≤ (at_ L i).size ∧ (at_ L i).size ≤ 32 := by
        intro i hi
        have e : (at_ L i).size = ((names a b).getD i []).length := by rw [← hdat i hi]; exact Array.length_toList.symm
        rw [e]
        have c : i = 0 ∨ i = 1 ∨ i = 2 ∨ i = 3 ∨ i = 4 ∨ i = 5 := by omega
        rcases c with rfl | rfl | rfl | rfl | rfl | rfl
        · have := two logP _ (by decide) la; exact this
        · have := two logP _ (by decide) lb; exact this
        · have := two groupP _ (by decide) la; exact this
        · have := two groupP _ (by decide) lb; exact this
        · exact (by decide : 1 ≤ manP.length ∧ manP.length ≤ 32)
        · exact (by decide : 1 ≤ newP.length ∧ newP.length ≤ 32)
      obtain ⟨k, hk⟩ := all a b L (by omega) (fun i j hi hj => by rw [Eb_data, hdat i (by omega), hdat j (by omega)]; exact pairs a b (by omega) (by omega) i j (by omega) hj) (fun i hi => hsz i (by omega)) 6 0 (by omega)
      refine ⟨k + 1, ?_⟩
      rw [if_neg ha, estreatlaw26_ManifestNames.j0, if_neg (by simp; omega)]
      unfold manifest_LogName.f manifest_GroupName.f
      rw [if_pos ra, Option.bind_some, if_pos rb, Option.bind_some, if_pos ra, Option.bind_some, if_pos rb, Option.bind_some, ← hL]
      exact hk

end Go.Proofs.YtjmhiklmlgbifaaGreatDoor.Pure
end

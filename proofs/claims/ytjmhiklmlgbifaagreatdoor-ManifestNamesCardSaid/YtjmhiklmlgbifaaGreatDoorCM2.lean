/- Texts of this proof, put into one: ManA, ManB, ManC, ManD, ManE, ManF. -/
import Derived.Test.YtjmhiklmlgbifaaGreatDoorPManx5
import Derived.Outline
import Derived.Handy
import Derived.Laws.Rows
import Derived.Deep.WholeRow
import Derived.Deep.MidRow
import Derived.Test.YtjmhiklmlgbifaaGreatDoorWNEv
import Derived.Test.YtjmhiklmlgbifaaGreatDoorWGuard
import Derived.Test.YtjmhiklmlgbifaaGreatDoorPManx4
import Derived.Test.YtjmhiklmlgbifaaGreatDoorPManx6
import Derived.Test.YtjmhiklmlgbifaaGreatDoorPManx9
import Derived.Test.YtjmhiklmlgbifaaGreatDoorPManx13
import Derived.StillTailTactics
import Derived.Test.YtjmhiklmlgbifaaGreatDoorPManx11
import Derived.Test.YtjmhiklmlgbifaaGreatDoorPManx12
import Derived.Test.YtjmhiklmlgbifaaGreatDoorPManx16
section
namespace Go.Proofs.YtjmhiklmlgbifaaGreatDoor.PMan
open Go.RowKit Go.Proofs.YtjmhiklmlgbifaaGreatDoorW.PrintWords Go.Proofs.YtjmhiklmlgbifaaGreatDoorW.PrintLast Go.Proofs.YtjmhiklmlgbifaaGreatDoorW.PrintMore
attribute [local go_sem] max2_int min2_int max_two min_two max_three min_three max_four min_four   -- for this text's walks alone
set_option linter.unusedVariables false
set_option linter.unusedSimpArgs false

theorem ents32 : Tryz.zeroCells81[32]? = some (.int .i64 0) := by kernel_rfl
theorem ents_size : Tryz.zeroCells81.size = 65 := by kernel_rfl
/-- The row of noughts lies at block e. -/
def EntC (W : World) (e : Nat) : Prop := W.rangeAt e 0 Tryz.zeroCells81.toList
theorem EntC.below {W W1 : World} {e : Nat} (h : EntC W e) (hb : Below W.heap.size W W1) : EntC W1 e := fun i x hx => pw_cell_below hb (h i x hx)
theorem EntC.of {W : World} {e : Nat} {t : TypeId} (h : W.heap[e]? = some (.cells Tryz.zeroCells81 t (0, 0))) : EntC W e := fun i x hx => by
  rw [Nat.zero_add, blk_cell h i]
  simpa using hx
/-- The least manifest, as a value. -/
abbrev ManV (s cs e ce : Nat) : Value := .agg #[.int .i64 0, .int .i64 0, .slice (some ⟨s, 0, none⟩) 1 cs, .int .i64 1, .slice none 0 0, .slice none 0 0, .slice (some ⟨e, 0, none⟩) 1 ce]
/-- What the least manifest leads to, at a world. -/
def ManP (W : World) (s cs e ce : Nat) : Prop := 1 ≤ cs ∧ 1 ≤ ce ∧ Kd.C k123 W (some ⟨s, 0, none⟩) 1 [⟨1, false, -1⟩] ∧ EntC W e
theorem ManP.below {W W1 : World} {s cs e ce : Nat} (h : ManP W s cs e ce) (hb : Below W.heap.size W W1) : ManP W1 s cs e ce := ⟨h.1, h.2.1, Kd.C_below h.2.2.1 hb, h.2.2.2.below hb⟩
set_option maxHeartbeats 1600000 in
set_option maxRecDepth 100000 in
theorem led_right (c : Array Value) (h32 : c[32]? = some (.int .i64 0)) (w : World) : Calls Tryz.prog 81 #[.agg c] w fun e w' => e = .returned (.bool true) ∧ Below w.heap.size w w' := by
  go_enter Tryz.func81, Tryz.ntmps81
  go_wp2
  go_ret
  exact ⟨rfl, below_alloc (Below.refl _ _) _⟩
set_option maxHeartbeats 1600000 in
set_option maxRecDepth 100000 in
theorem led_new (w : World) : Calls Tryz.prog 47 #[] w fun e w' => ∃ g, e = .returned (.pointer (some ⟨g, 0, none⟩)) ∧ w'.heap[g]? = some (.cells #[.slice none 0 0] 137 (0, 0)) ∧ w.heap.size ≤ g ∧ Below w.heap.size w w' := by
  go_enter Tryz.func47, Tryz.ntmps47
  go_wp2
  go_ret
  exact ⟨_, rfl, heap_alloc_new w _, Nat.le_refl _, below_alloc (Below.refl _ _) _⟩
theorem k_col (w : World) (s : Nat) (h0 : w.cell? ⟨s, 0, none⟩ = some (.int .i64 1)) (h1 : w.cell? ⟨s, 1, none⟩ = some (.bool false)) (h2 : w.cell? ⟨s, 2, none⟩ = some (.int .i64 (-1))) : Kd.C k123 w (some ⟨s, 0, none⟩) 1 [⟨1, false, -1⟩] := by
  refine ⟨rfl, by decide, fun _ => ⟨⟨s, 0, none⟩, rfl, fun j p hj => ?_⟩⟩
  match j, hj with
  | 0, hj =>
    obtain rfl : (⟨1, false, -1⟩ : S123) = p := by simpa using hj
    refine ⟨_, rfl, k123_mk w _, fun i u hu => ?_⟩
    match i, hu with
    | 0, hu => obtain rfl : Value.int .i64 1 = u := by simpa using hu
               exact h0
    | 1, hu => obtain rfl : Value.bool false = u := by simpa using hu
               exact h1
    | 2, hu => obtain rfl : Value.int .i64 (-1) = u := by simpa using hu
               exact h2
    | i + 3, hu => simp at hu
  | j + 1, hj => simp at hj
set_option maxHeartbeats 1600000 in
set_option maxRecDepth 100000 in
theorem m_least (w : World) : Calls Tryz.prog 28 #[] w fun v w' => ∃ s e, v = .returned (ManV s 1 e 1) ∧ ManP w' s 1 e 1 ∧ Below w.heap.size w w' := by
  go_enter Tryz.func28, Tryz.ntmps28
  go_wp2
  rw [show (Array.foldl (fun cs (x : Value × Nat) => cs.setIfInBounds x.snd x.fst) _ (Tryz.zeroCells81.zipIdx) 0 65) = Tryz.zeroCells81 from by kernel_rfl]
  generalize hw1 : w.alloc _ = W1
  generalize hw2 : W1.alloc _ = W2
  generalize hw3 : W2.alloc _ = W3
  have b1 : Below w.heap.size w W1 := hw1 ▸ below_alloc (Below.refl _ _) _
  have s1 : W1.heap.size = w.heap.size + 1 := by rw [← hw1]; simp
  have b2 : Below W1.heap.size W1 W2 := hw2 ▸ below_alloc (Below.refl _ _) _
  have s2 : W2.heap.size = w.heap.size + 1 + 1 := by rw [← hw2, ← s1]; simp
  have b3 : Below W2.heap.size W2 W3 := hw3 ▸ below_alloc (Below.refl _ _) _
  have x2 : W2.heap[w.heap.size + 1]? = some (.cells #[.int .i64 1, .bool false, .int .i64 (-1)] 123 (0, 0)) := by rw [← hw2, ← s1]; exact heap_alloc_new W1 _
  have x3 : W3.heap[w.heap.size + 1 + 1]? = some (.cells Tryz.zeroCells81 81 (0, 0)) := by rw [← hw3, ← s2]; exact heap_alloc_new W2 _
  have x1 : W1.heap[w.heap.size]? = some (.cells #[.int .i64 0, .int .i64 0, .slice (some ⟨w.heap.size + 1, 0, none⟩) 1 1, .int .i64 1, .slice none 0 0, .slice none 0 0, .slice (some ⟨w.heap.size + 1 + 1, 0, none⟩) 1 1] 27 (0, 0)) := by rw [← hw1]; exact heap_alloc_new w _
  have y1 := (b3.block _ (by rw [s2]; omega)).trans ((b2.block _ (by rw [s1]; omega)).trans x1)
  have y2 := (b3.block _ (by rw [s2]; omega)).trans x2
  refine bodyPost_ret (v := ManV (w.heap.size + 1) 1 (w.heap.size + 1 + 1) 1) (results_cell_row rfl _ _ w.heap.size 27 #[.int .i64 0, .int .i64 0, .slice (some ⟨w.heap.size + 1, 0, none⟩) 1 1, .int .i64 1, .slice none 0 0, .slice none 0 0, .slice (some ⟨w.heap.size + 1 + 1, 0, none⟩) 1 1] (0, 0) _ rfl y1 Tryz.underlying27 rfl (by kernel_rfl)) rfl ?_
  have c0 := blk_cell y2 0
  have c1 := blk_cell y2 1
  have c2 := blk_cell y2 2
  simp only [List.getElem?_toArray] at c0 c1 c2
  exact ⟨_, _, rfl, ⟨Nat.le_refl _, Nat.le_refl _, k_col _ _ c0 c1 c2, EntC.of x3⟩, b1.trans ((b2.mono b1.size).trans (b3.mono (Nat.le_trans b1.size b2.size)))⟩

set_option maxHeartbeats 1600000 in
set_option maxRecDepth 100000 in
theorem m_groups (s cs e ce : Nat) (w : World) : Calls Tryz.prog 45 #[ManV s cs e ce] w fun ev w' => ev = .returned (.int .i64 0) ∧ Below w.heap.size w w' := by
  unfold ManV
  go_enter Tryz.func45, Tryz.ntmps45
  go_wp2
  go_rounds 1
  go_ret
  exact ⟨rfl, below_alloc (Below.refl _ _) _⟩

-- ledger.Put of any entry: its cells are s, g, r.
theorem ent_at (c : Array Value) (s r : List Int) (g : Int) (hc : c = (s.map (Value.int .u8) ++ Value.int .i64 g :: r.map (Value.int .u8)).toArray) (hs : s.length = 32) : c[32]? = some (.int .i64 g) := by
  subst hc
  rw [List.getElem?_toArray, List.getElem?_append_right (by rw [List.length_map]; omega), List.length_map, hs]
  rfl
theorem ent_C1 (c : Array Value) (s r : List Int) (g : Int) (hc : c = (s.map (Value.int .u8) ++ Value.int .i64 g :: r.map (Value.int .u8)).toArray) (hs : s.length = 32) (W : World) (b : Nat) (t : TypeId) (hb : W.heap[b]? = some (.cells c t (0, 0))) : Kd.C (Kd.int .u8) W (some ⟨b, 0, none⟩) s.length s := by
  refine ⟨rfl, by omega, fun _ => ⟨⟨b, 0, none⟩, rfl, fun j p hj => ⟨[.int .u8 p], rfl, rfl, fun i u hu => ?_⟩⟩⟩
  match i, hu with
  | i + 1, hu => simp at hu
  | 0, hu =>
    obtain rfl : Value.int .u8 p = u := by simpa using hu
    have hl := (List.getElem?_eq_some_iff.1 hj).1
    have hadd : (⟨b, 0, none⟩ : Addr).add (j * (Kd.int IntKind.u8).sz + 0) = ⟨b, j, none⟩ := by
      show (⟨b, 0, none⟩ : Addr).add (j * 1 + 0) = _
      unfold Addr.add; split <;> simp_all
    rw [hadd, blk_cell hb j, hc, List.getElem?_toArray, List.getElem?_append_left (by rw [List.length_map]; exact hl), List.getElem?_map, hj]
    rfl
theorem ent_C2 (c : Array Value) (s r : List Int) (g : Int) (hc : c = (s.map (Value.int .u8) ++ Value.int .i64 g :: r.map (Value.int .u8)).toArray) (hs : s.length = 32) (hr : r.length = 32) (W : World) (b : Nat) (t : TypeId) (hb : W.heap[b]? = some (.cells c t (0, 0))) : Kd.C (Kd.int .u8) W (some ⟨b, 33, none⟩) r.length r := by
  refine ⟨rfl, by omega, fun _ => ⟨⟨b, 33, none⟩, rfl, fun j p hj => ⟨[.int .u8 p], rfl, rfl, fun i u hu => ?_⟩⟩⟩
  match i, hu with
  | i + 1, hu => simp at hu
  | 0, hu =>
    obtain rfl : Value.int .u8 p = u := by simpa using hu
    have hadd : (⟨b, 33, none⟩ : Addr).add (j * (Kd.int IntKind.u8).sz + 0) = ⟨b, 33 + j, none⟩ := by
      show (⟨b, 33, none⟩ : Addr).add (j * 1 + 0) = _
      unfold Addr.add; split <;> simp_all
    rw [hadd, blk_cell hb (33 + j), hc, List.getElem?_toArray, List.getElem?_append_right (by rw [List.length_map]; omega), List.length_map, hs, show 33 + j - 32 = j + 1 from by omega, List.getElem?_cons_succ, List.getElem?_map, hj]
    rfl
theorem led_clone (c : Array Value) (s r : List Int) (g : Int) (hc : c = (s.map (Value.int .u8) ++ Value.int .i64 g :: r.map (Value.int .u8)).toArray) (hs : s.length = 32) (hr : r.length = 32) (W : World) (b : Nat) (hb : W.heap[b]? = some (.cells c 81 (0, 0))) :
    Calls Tryz.prog 70 #[.slice (some ⟨b, 0, none⟩) 32 32] W fun e w' => ∃ v : Value, e = .returned v ∧ Kd.R (Kd.int .u8) 5 w' W.heap.size (fun _ => True) v s ∧ Below W.heap.size W w' := by
  have := bytes_Clone.calls (some ⟨b, 0, none⟩) 32 s s W (ent_C1 c s r g hc hs W b _ hb) (by omega) (by unfold bytes_Clone.f; rw [if_pos (by omega)])
  rw [hs] at this
  exact this
set_option maxHeartbeats 1600000 in
set_option maxRecDepth 100000 in
theorem led_put (k : Nat) (c : Array Value) (s r : List Int) (g : Int) (t : List Int) (hc : c = (s.map (Value.int .u8) ++ Value.int .i64 g :: r.map (Value.int .u8)).toArray) (hs : s.length = 32) (hr : r.length = 32) (hput : num_PutVar.f k s (IntKind.u64.wrap g) = some t) (ht : t.length + 32 < 140737488355328) (w : World) :
    Calls Tryz.prog 34 #[.agg c] w fun e w' => ∃ v : Value, e = .returned v ∧ Kd.R (Kd.int .u8) 5 w' w.heap.size (fun _ => True) v (t ++ r) ∧ Below w.heap.size w w' := by
  have h32 := ent_at c s r g hc hs
  have HCC := Aside0.mk hc
  have HSS := Aside0.mk hs
  have HRR := Aside0.mk hr
  have HPUT := Aside0.mk hput
  have HT := Aside0.mk ht
  clear hc hs hr hput ht
  obtain ⟨y, hy⟩ : ∃ y, y = t ++ r := ⟨_, rfl⟩
  have HY := Aside0.mk hy
  rw [← hy]
  clear hy
  go_enter Tryz.func34, Tryz.ntmps34
  go_wp2_with fail
  have hbk : (w.alloc (.cells c 81)).drew.heap[w.heap.size]? = some (.cells c 81 (0, 0)) := heap_alloc_new w _
  have hbw : Below w.heap.size w (w.alloc (.cells c 81)).drew := below_drew (below_alloc (Below.refl _ _) _)
  have hc0 : (w.alloc (.cells c 81)).drew.cell? ⟨w.heap.size, 32, none⟩ = some (.int .i64 g) := (blk_cell hbk 32).trans h32
  have HBK := Aside0.mk hbk
  have HBW := Aside0.mk hbw
  have HC0 := Aside0.mk hc0
  clear hbk hbw h32
  refine start_ (n := 8) (S := fun w' => w'.cell? ⟨w.heap.size, 32, none⟩ = some (.int .i64 g)) (ds := []) #[false, false, false, false, false, false, false, false] (by kernel_rfl) rfl rfl (hc0) (fun hHeld => ?_)
  generalize (w.alloc (.cells c 81)).drew = W2 at *
  refine pure_ (i := 0) (N := some 4) (v := ?_) (a' := ?_) #[true, false, false, false, false, false, false, false] rfl rfl (by kernel_rfl) (fun _ _ _ h => h) (Or.inl ⟨by rfl, ?_⟩) ?_ ?_
  rotate_left
  · intro w'
    go_simp
    with_reducible rfl
  rotate_left
  · simp only [Act.put, List.setIfInBounds_toArray, List.set_cons_zero, List.set_cons_succ, i64_w, i32_w]
    rfl
  refine pure_ (i := 1) (N := some 5) (v := ?_) (a' := ?_) #[true, true, false, false, false, false, false, false] rfl rfl (by kernel_rfl) (fun _ _ _ h => h) (Or.inl ⟨by rfl, ?_⟩) ?_ ?_
  rotate_left
  · intro w'
    go_simp
    with_reducible rfl
  rotate_left
  · simp only [Act.put, List.setIfInBounds_toArray, List.set_cons_zero, List.set_cons_succ, i64_w, i32_w]
    rfl
  refine pure_ (i := 3) (N := some 7) (v := ?_) (a' := ?_) #[true, true, false, true, false, false, false, false] rfl rfl (by kernel_rfl) (fun _ _ _ h => h) (Or.inl ⟨by rfl, ?_⟩) ?_ ?_
  rotate_left
  · intro w'
    go_simp
    with_reducible rfl
  rotate_left
  · simp only [Act.put, List.setIfInBounds_toArray, List.set_cons_zero, List.set_cons_succ, i64_w, i32_w]
    rfl
  refine take_ (i := 4) (N := some 8) (v := ?_) (a' := ?_) #[true, true, false, true, true, false, false, false] rfl rfl (by kernel_rfl) (fun _ _ _ h => h) (Or.inl ⟨by rfl, ?_⟩) hHeld ?_ ?_
  rotate_left
  · intro w' s0
    go_simp
    with_reducible rfl
  rotate_left
  · simp only [Act.put, List.setIfInBounds_toArray, List.set_cons_zero, List.set_cons_succ, i64_w, i32_w]
    rfl
  refine pure_ (i := 5) (N := some 9) (v := ?_) (a' := ?_) #[true, true, false, true, true, true, false, false] rfl rfl (by kernel_rfl) (fun _ _ _ h => h) (Or.inl ⟨by rfl, ?_⟩) ?_ ?_
  rotate_left
  · intro w'
    go_simp
    with_reducible rfl
  rotate_left
  · simp only [Act.put, List.setIfInBounds_toArray, List.set_cons_zero, List.set_cons_succ, i64_w, i32_w]
    rfl
  refine one_ (i := 2) (N := some 6) #[true, true, true, true, true, true, false, false] rfl rfl (by kernel_rfl) (by decide) (fun K hK => ?_)
  refine goes_ Tryz.func70 (by kernel_rfl) rfl #[.slice (some ⟨w.heap.size, 0, none⟩) 32 32] (by rfl) rfl rfl (by simp only [List.map_toArray, List.map_cons, List.map_nil]; rfl) ?_
  with_reducible refine (led_clone c s r g HCC.out HSS.out HRR.out W2 w.heap.size HBK.out).mono ?_
  rintro e w3 ⟨v3, rfl, ho3, hb3⟩
  refine ⟨_, rfl, ?_⟩
  have HO3 := Aside0.mk ho3
  have HB3 := Aside0.mk hb3
  clear ho3 hb3
  have hc0 := pw_cell_below HB3.out HC0.out
  refine hK.out _ _ (hc0) (fun hHeld => ?_)
  clear hK K
  refine norm_ (a' := ?_) ?_ ?_
  rotate_left
  · show Act.put _ (some 6) _ = _
    simp only [Act.put, List.setIfInBounds_toArray, List.set_cons_zero, List.set_cons_succ, i64_w, i32_w]
    rfl
  refine one_ (i := 6) (N := some 10) #[true, true, true, true, true, true, true, false] rfl rfl (by kernel_rfl) (by decide) (fun K hK => ?_)
  refine goes_ Tryz.func29 (by kernel_rfl) rfl #[v3, .int .u64 (IntKind.u64.wrap g)] (by rfl) rfl rfl (by simp only [List.map_toArray, List.map_cons, List.map_nil]; rfl) ?_
  with_reducible refine (num_PutVar.calls k (fun _ => True) v3 s (IntKind.u64.wrap g) t W2 w3 HB3.out HO3.out HPUT.out).mono ?_
  rintro e w4 ⟨v4, rfl, ho4, hb4, _⟩
  refine ⟨_, rfl, ?_⟩
  have HO4 := Aside0.mk ho4
  have HB4 := Aside0.mk hb4
  clear ho4 hb4
  have hc0 := pw_cell_below HB4.out HC0.out
  refine hK.out _ _ (hc0) (fun hHeld => ?_)
  clear hK K
  refine norm_ (a' := ?_) ?_ ?_
  rotate_left
  · show Act.put _ (some 10) _ = _
    simp only [Act.put, List.setIfInBounds_toArray, List.set_cons_zero, List.set_cons_succ, i64_w, i32_w]
    rfl
  refine pure_ (i := 7) (N := some 3) (v := ?_) (a' := ?_) #[true, true, true, true, true, true, true, true] rfl rfl (by kernel_rfl) (fun _ _ _ h => h) (Or.inl ⟨by rfl, ?_⟩) ?_ ?_
  rotate_left
  · intro w'
    go_simp
    with_reducible rfl
  rotate_left
  · simp only [Act.put, List.setIfInBounds_toArray, List.set_cons_zero, List.set_cons_succ, i64_w, i32_w]
    rfl
  refine done_ (by kernel_rfl) ?_
  have HB34 := Aside0.mk (HBW.out.trans (HB4.out.mono HBW.out.size))
  have HBK4 := Aside0.mk ((HB4.out.block _ (blk_lt HBK.out)).trans HBK.out)
  have hC2 := ent_C2 c s r g HCC.out HSS.out HRR.out w4 w.heap.size _ HBK4.out
  have hL : t.length + r.length < 140737488355328 := by rw [HRR.out]; exact HT.out
  rw [HRR.out] at hC2
  have HC2 := Aside0.mk hC2
  have HLN := Aside0.mk hL
  clear hC2 hL hc0
  go_wp2_with ((with_reducible refine gate_builtin (b := .append) (xs := #[.tmp 11, .tmp 13]) rfl ?_); at_builtin; refine Kd.R_append_rows (Kd.int .u8) (w0 := W2) W2.heap.size rfl (.tmp 11) (.tmp 13) 30 5 (.int .u8 0) 1 rfl Tryz.underlying30 info5 rfl (by decide) (by omega) v4 t r _ _ _ (fun _ => True) (fun _ => False) rfl rfl ?aO ?aR (fun _ _ h => h) (fun _ h => h.elim) ?aF ?aB ?aS ?aL ?_; (case aR => exact HC2.out); (case aB => exact HB4.out); (case aF => exact (fun _ _ => trivial)); (case aO => exact Kd.R_mono HO4.out (fun _ _ => trivial)); (case aS => exact HB4.out.size); (case aL => have := HT.out; omega); intro v7 w7 ho hb hg hat; rw [← HY.out] at ho; have HB7 := Aside0.mk hb; have HO7 := Aside0.mk ho; clear ho hb hg hat)
  go_ret
  exact ⟨_, rfl, Kd.R_lower (Kd.R_mono HO7.out (fun _ _ => trivial)) HBW.out.size, HBW.out.trans (HB7.out.mono HBW.out.size)⟩

end Go.Proofs.YtjmhiklmlgbifaaGreatDoor.PMan
end
section
namespace Go.Proofs.YtjmhiklmlgbifaaGreatDoor.PMan
open Go.RowKit Go.Proofs.YtjmhiklmlgbifaaGreatDoorW.PrintWords Go.Proofs.YtjmhiklmlgbifaaGreatDoorW.PrintLast Go.Proofs.YtjmhiklmlgbifaaGreatDoorW.PrintMore
attribute [local go_sem] max2_int min2_int max_two min_two max_three min_three max_four min_four   -- for this text's walks alone
set_option linter.unusedVariables false
set_option linter.unusedSimpArgs false

theorem ent_load {P : Program} (c : Array Value) (hs : c.size = 65) (W : World) (b : Nat) (t : TypeId) (hb : W.heap[b]? = some (.cells c t (0, 0))) : (loadCellsFrom ⟨b, 0, none⟩ 0 65 #[]).run P W = .ok c W := by
  have := run_loadCells_list (P := P) W ⟨b, 0, none⟩ c.toList (fun j v hv => by
    have hadd : (⟨b, 0, none⟩ : Addr).add j = ⟨b, j, none⟩ := by unfold Addr.add; split <;> simp_all
    rw [hadd, blk_cell hb j]
    simpa using hv)
  have hl : c.toList.length = 65 := by simpa using hs
  rw [hl] at this
  simpa [loadCells] using this
theorem exec_load {P : Program} {oi : Oper} {f : Operand → Value} {W : World} (ty : TypeId) (x : Operand) (ho : oi.op = .load ty x) (g : Nat) (hx : f x = .pointer (some ⟨g, 0, none⟩)) (t : TypeId) (cs : Array Value) (fr : Nat × Nat) (d : TypeDesc) (hg : W.heap[g]? = some (.cells cs t fr))
    (hu : P.underlying ty = some d) (hd : (match d with | .struct _ | .array _ _ => true | _ => false) = true) (hi : (P.info? ty).map (·.size) = some cs.size) : (execOp f oi).run P W = .ok (.value (.agg cs)) W := by
  unfold execOp
  simp only [ho, hx, Instr.loadAt, Instr.sureAddr, Sem.run_bind, Sem.run_pure, Result.andThen_ok, run_loadVar_row W g t ty cs fr d hg hu hd hi]
theorem ents_is : Tryz.zeroCells81 = ((List.replicate 32 (0 : Int)).map (Value.int .u8) ++ Value.int .i64 0 :: (List.replicate 32 (0 : Int)).map (Value.int .u8)).toArray := by kernel_rfl
theorem led_putE (w : World) : Calls Tryz.prog 34 #[.agg Tryz.zeroCells81] w fun e w' => ∃ v : Value, e = .returned v ∧ Kd.R (Kd.int .u8) 5 w' w.heap.size (fun _ => True) v (List.replicate 65 0) ∧ Below w.heap.size w w' :=
  led_put 2 Tryz.zeroCells81 (List.replicate 32 0) (List.replicate 32 0) 0 (List.replicate 33 0) ents_is rfl rfl (by decide +kernel) (by decide) w
set_option maxHeartbeats 1600000 in
set_option maxRecDepth 100000 in
theorem led_add (g : Nat) (w : World) (hg : w.heap[g]? = some (.cells #[.slice none 0 0] 137 (0, 0))) :
    Calls Tryz.prog 48 #[.pointer (some ⟨g, 0, none⟩), .agg Tryz.zeroCells81] w fun e w' => e = .returned (.int .i64 0) ∧ Below g w w' := by
  have HG := Aside0.mk hg
  clear hg
  go_enter Tryz.func48, Tryz.ntmps48
  go_wp2_with (first | (refine gate_guard (by rfl) ?_; dsimp only; refine wpList_load_row rfl 81 (.tmp 3) rfl w.heap.size rfl 81 Tryz.zeroCells81 (0, 0) _ (heap_alloc_new w _) Tryz.underlying81 rfl (by rw [ents_size]; kernel_rfl) ?_) | (go_at_call 81; refine (led_right Tryz.zeroCells81 ents32 _).mono ?_; rintro e w1 ⟨rfl, hb1⟩; have HB1 := Aside0.mk hb1; clear hb1))
  have hbk : w1.drew.heap[w.heap.size]? = some (.cells Tryz.zeroCells81 81 (0, 0)) := (HB1.out.block _ (by simp)).trans (heap_alloc_new w _)
  have hbw : Below w.heap.size w w1.drew := below_drew ((below_alloc (Below.refl _ _) (.cells Tryz.zeroCells81 81)).trans (HB1.out.mono (by simp)))
  have hg2 : w1.drew.heap[g]? = some (.cells #[.slice none 0 0] 137 (0, 0)) := (hbw.block _ (blk_lt HG.out)).trans HG.out
  have hc0 := blk_cell hg2 0
  simp only [List.getElem?_toArray] at hc0
  have hk0 := hbk
  have HBK := Aside0.mk hbk
  have HBW := Aside0.mk hbw
  have HG2 := Aside0.mk hg2
  have hc0 : w1.drew.cell? ⟨g, 0, none⟩ = some (.slice none 0 0) := hc0
  have HC0 := Aside0.mk hc0
  clear hbk hbw hg2 HB1
  refine start_ (n := 14) (S := fun w' => w'.cell? ⟨g, 0, none⟩ = some (.slice none 0 0) ∧ w'.heap[w.heap.size]? = some (.cells Tryz.zeroCells81 81 (0, 0))) (ds := [13]) #[false, false, false, false, false, false, false, false, false, false, false, false, false, false] (by kernel_rfl) rfl rfl ⟨hc0, hk0⟩ (fun hHeld => ?_)
  generalize w1.drew = W2 at *
  refine pure_ (i := 0) (N := some 12) (v := ?_) (a' := ?_) #[true, false, false, false, false, false, false, false, false, false, false, false, false, false] rfl rfl (by kernel_rfl) (fun _ _ _ h => h) (Or.inl ⟨by rfl, ?_⟩) ?_ ?_
  rotate_left
  · intro w'
    go_simp
    with_reducible rfl
  rotate_left
  · simp only [Act.put, List.setIfInBounds_toArray, List.set_cons_zero, List.set_cons_succ, i64_w, i32_w]
    rfl
  refine pure_ (i := 1) (N := some 13) (v := ?_) (a' := ?_) #[true, true, false, false, false, false, false, false, false, false, false, false, false, false] rfl rfl (by kernel_rfl) (fun _ _ _ h => h) (Or.inl ⟨by rfl, ?_⟩) ?_ ?_
  rotate_left
  · intro w'
    go_simp
    with_reducible rfl
  rotate_left
  · simp only [Act.put, List.setIfInBounds_toArray, List.set_cons_zero, List.set_cons_succ, i64_w, i32_w]
    rfl
  refine pure_ (i := 2) (N := some 14) (v := ?_) (a' := ?_) #[true, true, true, false, false, false, false, false, false, false, false, false, false, false] rfl rfl (by kernel_rfl) (fun _ _ _ h => h) (Or.inl ⟨by rfl, ?_⟩) ?_ ?_
  rotate_left
  · intro w'
    go_simp
    with_reducible rfl
  rotate_left
  · simp only [Act.put, List.setIfInBounds_toArray, List.set_cons_zero, List.set_cons_succ, i64_w, i32_w]
    rfl
  refine pure_ (i := 3) (N := some 15) (v := ?_) (a' := ?_) #[true, true, true, true, false, false, false, false, false, false, false, false, false, false] rfl rfl (by kernel_rfl) (fun _ _ _ h => h) (Or.inl ⟨by rfl, ?_⟩) ?_ ?_
  rotate_left
  · intro w'
    go_simp
    with_reducible rfl
  rotate_left
  · simp only [Act.put, List.setIfInBounds_toArray, List.set_cons_zero, List.set_cons_succ, i64_w, i32_w]
    rfl
  refine take_ (i := 4) (N := some 16) (v := ?_) (a' := ?_) #[true, true, true, true, true, false, false, false, false, false, false, false, false, false] rfl rfl (by kernel_rfl) (fun _ _ _ h => h) (Or.inl ⟨by rfl, ?_⟩) hHeld ?_ ?_
  rotate_left
  · rintro w' ⟨s0, s1⟩
    go_simp
    with_reducible rfl
  rotate_left
  · simp only [Act.put, List.setIfInBounds_toArray, List.set_cons_zero, List.set_cons_succ, i64_w, i32_w]
    rfl
  refine take_ (i := 5) (N := some 17) (v := ?_) (a' := ?_) #[true, true, true, true, true, true, false, false, false, false, false, false, false, false] rfl rfl (by kernel_rfl) (fun _ _ _ h => h) (Or.inl ⟨by rfl, ?_⟩) hHeld ?_ ?_
  rotate_left
  · rintro w' ⟨s0, s1⟩
    refine exec_load 81 (.tmp 3) ?_ w.heap.size ?_ 81 Tryz.zeroCells81 (0, 0) _ s1 Tryz.underlying81 rfl ?_
    · rfl
    · rfl
    · rw [ents_size]; kernel_rfl
  rotate_left
  · simp only [Act.put, List.setIfInBounds_toArray, List.set_cons_zero, List.set_cons_succ, i64_w, i32_w]
    rfl
  refine take_ (i := 6) (N := some 18) (v := ?_) (a' := ?_) #[true, true, true, true, true, true, true, false, false, false, false, false, false, false] rfl rfl (by kernel_rfl) (fun _ _ _ h => h) (Or.inl ⟨by rfl, ?_⟩) hHeld ?_ ?_
  rotate_left
  · rintro w' ⟨s0, s1⟩
    refine exec_load 81 (.tmp 3) ?_ w.heap.size ?_ 81 Tryz.zeroCells81 (0, 0) _ s1 Tryz.underlying81 rfl ?_
    · rfl
    · rfl
    · rw [ents_size]; kernel_rfl
  rotate_left
  · simp only [Act.put, List.setIfInBounds_toArray, List.set_cons_zero, List.set_cons_succ, i64_w, i32_w]
    rfl
  refine one_ (i := 7) (N := some 19) #[true, true, true, true, true, true, true, true, false, false, false, false, false, false] rfl rfl (by kernel_rfl) (by decide) (fun K hK => ?_)
  refine goes_ Tryz.func34 (by kernel_rfl) rfl #[.agg Tryz.zeroCells81] (by rfl) rfl rfl (by simp only [List.map_toArray, List.map_cons, List.map_nil]; rfl) ?_
  with_reducible refine (led_putE W2).mono ?_
  rintro e w4 ⟨v4, rfl, ho4, hb4⟩
  refine ⟨_, rfl, ?_⟩
  obtain ⟨A4, c4, rfl⟩ := Kd.R_slice ho4
  have HB4 := Aside0.mk hb4
  clear ho4 hb4
  have hc0 := pw_cell_below HB4.out HC0.out
  have hk0 := (HB4.out.block _ (blk_lt HBK.out)).trans HBK.out
  refine hK.out _ _ ⟨hc0, hk0⟩ (fun hHeld => ?_)
  clear hK K
  refine norm_ (a' := ?_) ?_ ?_
  rotate_left
  · show Act.put _ (some 19) _ = _
    simp only [Act.put, List.setIfInBounds_toArray, List.set_cons_zero, List.set_cons_succ, i64_w, i32_w]
    rfl
  refine pure_ (i := 8) (N := some 20) (v := ?_) (a' := ?_) #[true, true, true, true, true, true, true, true, true, false, false, false, false, false] rfl rfl (by kernel_rfl) (fun _ _ _ h => h) (Or.inl ⟨by rfl, ?_⟩) ?_ ?_
  rotate_left
  · intro w'
    show _ = Result.ok (Next.value (Value.agg (Tryz.zeroCells81.toList ++ [Value.slice A4 (List.replicate 65 (0 : Int)).length c4]).toArray)) w'
    kernel_rfl
  rotate_left
  · simp only [Act.put, List.setIfInBounds_toArray, List.set_cons_zero, List.set_cons_succ, i64_w, i32_w]
    rfl
  refine one_ (i := 9) (N := some 21) #[true, true, true, true, true, true, true, true, true, true, false, false, false, false] rfl rfl (by kernel_rfl) (by decide) (fun K hK => ?_)
  refine value_ (w1 := ?_) (v := ?_) (by rfl) rfl ?_ ?_
  rotate_left 2
  · show _ = Result.ok (Next.value (Value.slice (some ⟨w4.heap.size, 0, none⟩) 1 1)) (w4.alloc (.cells (Tryz.zeroCells81.toList ++ [Value.slice A4 (List.replicate 65 (0 : Int)).length c4]).toArray 140))
    kernel_rfl
  have hone : (Tryz.zeroCells81.toList ++ [Value.slice A4 (List.replicate 65 (0 : Int)).length c4]).all (·.oneCell') = true := by kernel_rfl
  have hb9 : Below W2.heap.size W2 (w4.alloc (.cells (Tryz.zeroCells81.toList ++ [Value.slice A4 (List.replicate 65 (0 : Int)).length c4]).toArray 140)) := below_alloc HB4.out _
  have hc0 := pw_cell_below hb9 HC0.out
  have hk0 := (hb9.block _ (blk_lt HBK.out)).trans HBK.out
  refine hK.out _ _ ⟨hc0, hk0⟩ (fun hHeld => ?_)
  clear hK K
  refine norm_ (a' := ?_) ?_ ?_
  rotate_left
  · show Act.put _ (some 21) _ = _
    simp only [Act.put, List.setIfInBounds_toArray, List.set_cons_zero, List.set_cons_succ, i64_w, i32_w]
    rfl
  refine one_ (i := 10) (N := some 22) #[true, true, true, true, true, true, true, true, true, true, true, false, false, false] rfl rfl (by kernel_rfl) (by decide) (fun K hK => ?_)
  refine Kd.R_append_step (Kd.raw 66) (w0 := W2) W2.heap.size (by rfl) (.tmp 16) (.tmp 21) 135 140 (.agg Tryz.zeroCells140) 96 rfl Tryz.underlying135 (by kernel_rfl) (by kernel_rfl) (by decide) (by decide) (.slice none 0 0) [] (Tryz.zeroCells81.toList ++ [Value.slice A4 (List.replicate 65 (0 : Int)).length c4]) (Tryz.zeroCells81.toList ++ [Value.slice A4 (List.replicate 65 (0 : Int)).length c4]) (fun _ => True) (fun _ => False) rfl rfl ⟨rfl, rfl, fun u hu => List.all_eq_true.1 hone u hu⟩ (fun _ h => h.elim) (fun _ _ => trivial) (Kd.R_nil _ _ _ _ _) HB4.out HB4.out.size (by decide) ?_
  intro v5 w5 ho5 hb5 _ _
  obtain ⟨A5, c5, rfl⟩ := Kd.R_slice ho5
  have HB5 := Aside0.mk hb5
  clear ho5 hb5
  have hg5 := (HB5.out.block _ (blk_lt HG2.out)).trans HG2.out
  have hf5 := blk_frozen hg5 0
  have hc0 := pw_cell_below HB5.out HC0.out
  have hk0 := (HB5.out.block _ (blk_lt HBK.out)).trans HBK.out
  refine hK.out _ _ ⟨hc0, hk0⟩ (fun hHeld => ?_)
  clear hK K
  refine norm_ (a' := ?_) ?_ ?_
  rotate_left
  · show Act.put _ (some 22) _ = _
    simp only [Act.put, List.setIfInBounds_toArray, List.set_cons_zero, List.set_cons_succ, i64_w, i32_w]
    rfl
  refine pure_ (i := 11) (N := some 23) (v := ?_) (a' := ?_) #[true, true, true, true, true, true, true, true, true, true, true, true, false, false] rfl rfl (by kernel_rfl) (fun _ _ _ h => h) (Or.inl ⟨by rfl, ?_⟩) ?_ ?_
  rotate_left
  · intro w'
    go_simp
    with_reducible rfl
  rotate_left
  · simp only [Act.put, List.setIfInBounds_toArray, List.set_cons_zero, List.set_cons_succ, i64_w, i32_w]
    rfl
  refine pure_ (i := 12) (N := some 24) (v := ?_) (a' := ?_) #[true, true, true, true, true, true, true, true, true, true, true, true, true, false] rfl rfl (by kernel_rfl) (fun _ _ _ h => h) (Or.inl ⟨by rfl, ?_⟩) ?_ ?_
  rotate_left
  · intro w'
    go_simp
    with_reducible rfl
  rotate_left
  · simp only [Act.put, List.setIfInBounds_toArray, List.set_cons_zero, List.set_cons_succ, i64_w, i32_w]
    rfl
  refine last_ (i := 13) (N := none) #[true, true, true, true, true, true, true, true, true, true, true, true, true, true] rfl rfl (by kernel_rfl) (by decide) (fun K hK => ?_)
  refine skip_ (w1 := ?_) (by rfl) rfl ?_ ?_
  rotate_left
  · go_simp
    rfl
  refine hK.out _ _ ?_
  clear hK K
  refine done_ (by kernel_rfl) ?_
  go_wp2
  go_ret
  exact ⟨rfl, ((HBW.out.trans (HB5.out.mono HBW.out.size)).mono (Nat.le_of_lt (blk_lt HG.out))).setCell (Nat.le_refl _) _⟩

end Go.Proofs.YtjmhiklmlgbifaaGreatDoor.PMan
end
section
namespace Go.Proofs.YtjmhiklmlgbifaaGreatDoor.PMan
open Go.RowKit Go.Proofs.YtjmhiklmlgbifaaGreatDoorW.PrintWords Go.Proofs.YtjmhiklmlgbifaaGreatDoorW.PrintLast Go.Proofs.YtjmhiklmlgbifaaGreatDoorW.PrintMore
attribute [local go_sem] max2_int min2_int max_two min_two max_three min_three max_four min_four   -- for this text's walks alone
set_option linter.unusedVariables false
set_option linter.unusedSimpArgs false

theorem m_within0 (w : World) : Calls Tryz.prog 44 #[.int .i64 0, .int .i64 0, .int .i64 1099511627776] w fun e w' => e = .returned (.bool true) ∧ Drawn0 w w' := manifest_within.calls 0 0 1099511627776 true w (by decide +kernel)
theorem m_within1 (w : World) : Calls Tryz.prog 44 #[.int .i64 1, .int .i64 1, .int .i64 65536] w fun e w' => e = .returned (.bool true) ∧ Drawn0 w w' := manifest_within.calls 1 1 65536 true w (by decide +kernel)
set_option maxHeartbeats 4000000 in
set_option maxRecDepth 100000 in
theorem m_check (s cs e ce : Nat) (w : World) (hM : ManP w s cs e ce) : Calls Tryz.prog 13 #[ManV s cs e ce] w fun ev w' => ev = .returned (.int .i64 0) ∧ Below w.heap.size w w' := by
  have HM := Aside0.mk hM
  clear hM
  unfold ManV
  go_enter Tryz.func13, Tryz.ntmps13
  go_wp2_with fail
  have hx0 : (w.alloc (.cells #[.int .i64 0, .int .i64 0, .slice (some ⟨s, 0, none⟩) 1 cs, .int .i64 1, .slice none 0 0, .slice none 0 0, .slice (some ⟨e, 0, none⟩) 1 ce] 27)).heap[w.heap.size]? = some (.cells #[.int .i64 0, .int .i64 0, .slice (some ⟨s, 0, none⟩) 1 cs, .int .i64 1, .slice none 0 0, .slice none 0 0, .slice (some ⟨e, 0, none⟩) 1 ce] 27 (0, 0)) := heap_alloc_new w _
  have hb0 : Below w.heap.size w (w.alloc (.cells #[.int .i64 0, .int .i64 0, .slice (some ⟨s, 0, none⟩) 1 cs, .int .i64 1, .slice none 0 0, .slice none 0 0, .slice (some ⟨e, 0, none⟩) 1 ce] 27)) := below_alloc (Below.refl _ _) _
  have HX := Aside0.mk hx0
  have HB0 := Aside0.mk hb0
  have HM0 := Aside0.mk (HM.out.below hb0)
  clear hx0 hb0
  generalize w.alloc (.cells #[.int .i64 0, .int .i64 0, .slice (some ⟨s, 0, none⟩) 1 cs, .int .i64 1, .slice none 0 0, .slice none 0 0, .slice (some ⟨e, 0, none⟩) 1 ce] 27) = W0 at *
  refine (value_Schema.calls 5 (some ⟨s, 0, none⟩) cs [⟨1, false, -1⟩] 0 W0 HM0.out.2.2.1 HM0.out.1 (by kernel_rfl)).mono ?_
  rintro ev w1 ⟨rfl, hb⟩
  have HB1 := Aside0.mk hb
  clear hb
  have hx := (HB1.out.block _ (blk_lt HX.out)).trans HX.out
  have HX := Aside0.mk hx
  have q0 : w1.cell? ⟨w.heap.size, 0, none⟩ = some (.int .i64 0) := blk_cell hx 0
  have q1 : w1.cell? ⟨w.heap.size, 1, none⟩ = some (.int .i64 0) := blk_cell hx 1
  have q2 : w1.cell? ⟨w.heap.size, 2, none⟩ = some (.slice (some ⟨s, 0, none⟩) 1 cs) := blk_cell hx 2
  have q3 : w1.cell? ⟨w.heap.size, 3, none⟩ = some (.int .i64 1) := blk_cell hx 3
  have q4 : w1.cell? ⟨w.heap.size, 4, none⟩ = some (.slice none 0 0) := blk_cell hx 4
  have q5 : w1.cell? ⟨w.heap.size, 5, none⟩ = some (.slice none 0 0) := blk_cell hx 5
  have q6 : w1.cell? ⟨w.heap.size, 6, none⟩ = some (.slice (some ⟨e, 0, none⟩) 1 ce) := blk_cell hx 6
  clear hx
  go_wp2_with (first | (go_at_call 44; (with_reducible refine (m_within0 _).mono ?_); rintro ev w' ⟨rfl, ⟨nd, rfl⟩⟩) | (go_at_call 44; (with_reducible refine (m_within1 _).mono ?_); rintro ev w' ⟨rfl, ⟨nd, rfl⟩⟩))
  refine (m_groups s cs e ce _).mono ?_
  rintro ev w2 ⟨rfl, hb⟩
  have HB2 := Aside0.mk (show Below w1.heap.size w1 w2 from (pw_below_drewN (Below.refl _ _) _).trans hb)
  clear hb
  clear q0 q1 q2 q3 q4 q5 q6
  have hx := (HB2.out.block _ (blk_lt HX.out)).trans HX.out
  have HX := Aside0.mk hx
  have q0 : w2.cell? ⟨w.heap.size, 0, none⟩ = some (.int .i64 0) := blk_cell hx 0
  have q1 : w2.cell? ⟨w.heap.size, 1, none⟩ = some (.int .i64 0) := blk_cell hx 1
  have q2 : w2.cell? ⟨w.heap.size, 2, none⟩ = some (.slice (some ⟨s, 0, none⟩) 1 cs) := blk_cell hx 2
  have q3 : w2.cell? ⟨w.heap.size, 3, none⟩ = some (.int .i64 1) := blk_cell hx 3
  have q4 : w2.cell? ⟨w.heap.size, 4, none⟩ = some (.slice none 0 0) := blk_cell hx 4
  have q5 : w2.cell? ⟨w.heap.size, 5, none⟩ = some (.slice none 0 0) := blk_cell hx 5
  have q6 : w2.cell? ⟨w.heap.size, 6, none⟩ = some (.slice (some ⟨e, 0, none⟩) 1 ce) := blk_cell hx 6
  clear hx
  have HM2 := Aside0.mk ((HM0.out.below HB1.out).below HB2.out)
  go_wp2_with fail
  refine wp_loop_rounds 1 ?_
  rw [rounds_succ]
  go_wp2_with fail
  refine (led_new _).mono ?_
  rintro ev w3 ⟨g, rfl, hg, hgs, hb⟩
  have HG := Aside0.mk hg
  have HGS := Aside0.mk hgs
  have HB3 := Aside0.mk hb
  clear hg hgs hb
  clear q0 q1 q2 q3 q4 q5 q6
  have hx := (HB3.out.block _ (blk_lt HX.out)).trans HX.out
  have HX := Aside0.mk hx
  have q0 : w3.cell? ⟨w.heap.size, 0, none⟩ = some (.int .i64 0) := blk_cell hx 0
  have q1 : w3.cell? ⟨w.heap.size, 1, none⟩ = some (.int .i64 0) := blk_cell hx 1
  have q2 : w3.cell? ⟨w.heap.size, 2, none⟩ = some (.slice (some ⟨s, 0, none⟩) 1 cs) := blk_cell hx 2
  have q3 : w3.cell? ⟨w.heap.size, 3, none⟩ = some (.int .i64 1) := blk_cell hx 3
  have q4 : w3.cell? ⟨w.heap.size, 4, none⟩ = some (.slice none 0 0) := blk_cell hx 4
  have q5 : w3.cell? ⟨w.heap.size, 5, none⟩ = some (.slice none 0 0) := blk_cell hx 5
  have q6 : w3.cell? ⟨w.heap.size, 6, none⟩ = some (.slice (some ⟨e, 0, none⟩) 1 ce) := blk_cell hx 6
  clear hx
  have HM3 := Aside0.mk (HM2.out.below HB3.out)
  go_wp2_with fail
  refine wp_loop_rounds 2 ?_
  rw [rounds_succ]
  have he := HM3.out.2.2.2
  have hone : Tryz.zeroCells81.all (·.oneCell') = true := by kernel_rfl
  go_wp2_with (first | (refine wpList_load_mid rfl 81 (.tmp 71) rfl e 0 rfl Tryz.zeroCells81.toList _ HM3.out.2.2.2 Tryz.underlying81 rfl (by kernel_rfl) ?_) | (refine wpList_store_row rfl 81 (.tmp 10) (.tmp 72) rfl w3.heap.size Tryz.zeroCells81 rfl rfl 81 Tryz.zeroCells81 (heap_alloc_new w3 _) (by rw [ents_size]; kernel_rfl) rfl hone ?_; rw [World.setRow_alloc_new]) | (refine wpList_load_row rfl 81 (.tmp 10) rfl w3.heap.size rfl 81 Tryz.zeroCells81 (0, 0) _ (heap_alloc_new w3 _) Tryz.underlying81 rfl (by rw [ents_size]; kernel_rfl) ?_))
  have hga : (w3.alloc (.cells Tryz.zeroCells81 81)).heap[g]? = some (.cells #[.slice none 0 0] 137 (0, 0)) := ((below_alloc (Below.refl w3.heap.size w3) _).block _ (blk_lt HG.out)).trans HG.out
  refine (led_add g _ hga).mono ?_
  rintro ev w4 ⟨rfl, hb⟩
  have HB4 := Aside0.mk (((below_alloc (Below.refl w3.heap.size w3) (.cells Tryz.zeroCells81 81)).mono (Nat.le_of_lt (blk_lt HG.out))).trans hb)
  clear hb hga
  go_wp2_with fail
  rw [rounds_succ]
  go_wp2_with fail
  go_ret
  have z0 := HB0.out.size
  have z1 := HB1.out.size
  have z2 := HB2.out.size
  have z3 := HGS.out
  exact ⟨rfl, HB0.out.trans ((HB1.out.mono z0).trans ((HB2.out.mono (by omega)).trans ((HB3.out.mono (by omega)).trans (HB4.out.mono (by omega)))))⟩

end Go.Proofs.YtjmhiklmlgbifaaGreatDoor.PMan
end
section
namespace Go.Proofs.YtjmhiklmlgbifaaGreatDoor.PMan
open Go.RowKit Go.Proofs.YtjmhiklmlgbifaaGreatDoorW.PrintWords Go.Proofs.YtjmhiklmlgbifaaGreatDoorW.PrintLast Go.Proofs.YtjmhiklmlgbifaaGreatDoorW.PrintMore
attribute [local go_sem] max2_int min2_int max_two min_two max_three min_three max_four min_four   -- for this text's walks alone
set_option linter.unusedVariables false
set_option linter.unusedSimpArgs false

theorem m_pv (v : Value) (l : List Int) (x : Int) (t : List Int) (w0 w : World) (hB : Below w0.heap.size w0 w) (ho : Kd.R (Kd.int .u8) 5 w w0.heap.size (fun _ => True) v l) (h : num_PutVar.f 2 l x = some t) :
    Calls Tryz.prog 29 #[v, .int .u64 x] w fun e w' => ∃ v' : Value, e = .returned v' ∧ Kd.R (Kd.int .u8) 5 w' w0.heap.size (fun _ => True) v' t ∧ Below w0.heap.size w0 w' := by
  refine (num_PutVar.calls 2 (fun _ => True) v l x t w0 w hB ho h).mono ?_
  rintro e w' ⟨v', rfl, hr, hb, _⟩
  exact ⟨v', rfl, Kd.R_mono hr (fun _ _ => trivial), hb⟩
set_option maxHeartbeats 1600000 in
set_option maxRecDepth 100000 in
theorem m_putrows (v : Value) (l t : List Int) (w0 w : World) (hB : Below w0.heap.size w0 w) (ho : Kd.R (Kd.int .u8) 5 w w0.heap.size (fun _ => True) v l) (h : num_PutVar.f 2 l 0 = some t) :
    Calls Tryz.prog 33 #[v, .slice none 0 0] w fun e w' => ∃ v' : Value, e = .returned v' ∧ Kd.R (Kd.int .u8) 5 w' w0.heap.size (fun _ => True) v' t ∧ Below w0.heap.size w0 w' := by
  have HB := Aside0.mk hB
  have HO := Aside0.mk ho
  have HF := Aside0.mk h
  clear hB ho h
  go_enter Tryz.func33, Tryz.ntmps33
  go_wp2_with fail
  refine (m_pv v l 0 t w0 w HB.out HO.out HF.out).mono ?_
  rintro e w1 ⟨v', rfl, hr, hb⟩
  have HR := Aside0.mk hr
  have HB1 := Aside0.mk hb
  clear hr hb
  go_wp2
  go_rounds 1
  go_ret
  exact ⟨_, rfl, HR.out, HB1.out⟩
/-- The bytes in the least manifest's frame. -/
def leastL : List Int := [0, 0, 1, 1, 1, 0, 0, 0, 0, 1] ++ List.replicate 65 0
/-- The least manifest's file. -/
def leastF : List Int := match frame_Put.f 5 leastL with | some (x, _) => x | none => []
theorem leastF_is : frame_Put.f 5 leastL = some (leastF, 0) := by decide +kernel
theorem m_schemaBytes : value_PutSchema.f 5 [⟨1, false, -1⟩] = some [1, 1, 0, 0] := by decide +kernel
set_option maxHeartbeats 4000000 in
set_option maxRecDepth 100000 in
theorem m_put (s cs e ce : Nat) (w : World) (hM : ManP w s cs e ce) : Calls Tryz.prog 10 #[ManV s cs e ce] w fun ev w' => ∃ v : Value, ev = .returned (.tuple #[v, .int .i64 0]) ∧ Kd.R (Kd.int .u8) 5 w' w.heap.size (fun _ => True) v leastF ∧ Below w.heap.size w w' := by
  have HM := Aside0.mk hM
  clear hM
  unfold ManV
  go_enter Tryz.func10, Tryz.ntmps10
  go_wp2_with fail
  have hx0 : (w.alloc (.cells #[.int .i64 0, .int .i64 0, .slice (some ⟨s, 0, none⟩) 1 cs, .int .i64 1, .slice none 0 0, .slice none 0 0, .slice (some ⟨e, 0, none⟩) 1 ce] 27)).heap[w.heap.size]? = some (.cells #[.int .i64 0, .int .i64 0, .slice (some ⟨s, 0, none⟩) 1 cs, .int .i64 1, .slice none 0 0, .slice none 0 0, .slice (some ⟨e, 0, none⟩) 1 ce] 27 (0, 0)) := heap_alloc_new w _
  have hb0 : Below w.heap.size w (w.alloc (.cells #[.int .i64 0, .int .i64 0, .slice (some ⟨s, 0, none⟩) 1 cs, .int .i64 1, .slice none 0 0, .slice none 0 0, .slice (some ⟨e, 0, none⟩) 1 ce] 27)) := below_alloc (Below.refl _ _) _
  have HX := Aside0.mk hx0
  have HB0 := Aside0.mk hb0
  have HM0 := Aside0.mk (HM.out.below hb0)
  clear hx0 hb0
  generalize w.alloc (.cells #[.int .i64 0, .int .i64 0, .slice (some ⟨s, 0, none⟩) 1 cs, .int .i64 1, .slice none 0 0, .slice none 0 0, .slice (some ⟨e, 0, none⟩) 1 ce] 27) = W0 at *
  refine (m_check s cs e ce W0 HM0.out).mono ?_
  rintro ev w1 ⟨rfl, hb⟩
  have hx2 : w1.drew.heap[w.heap.size]? = some (.cells #[.int .i64 0, .int .i64 0, .slice (some ⟨s, 0, none⟩) 1 cs, .int .i64 1, .slice none 0 0, .slice none 0 0, .slice (some ⟨e, 0, none⟩) 1 ce] 27 (0, 0)) := (hb.block _ (blk_lt HX.out)).trans HX.out
  have HB1 := Aside0.mk (below_drew hb)
  have HM1 := Aside0.mk (HM0.out.below (below_drew hb))
  have hbw : Below w.heap.size w w1.drew := HB0.out.trans ((below_drew hb).mono HB0.out.size)
  have HBW := Aside0.mk hbw
  clear hb hbw
  go_wp2_with fail
  have q0 : w1.drew.cell? ⟨w.heap.size, 0, none⟩ = some (.int .i64 0) := blk_cell hx2 0
  have Q0 := Aside0.mk q0
  have q1 : w1.drew.cell? ⟨w.heap.size, 1, none⟩ = some (.int .i64 0) := blk_cell hx2 1
  have Q1 := Aside0.mk q1
  have q2 : w1.drew.cell? ⟨w.heap.size, 2, none⟩ = some (.slice (some ⟨s, 0, none⟩) 1 cs) := blk_cell hx2 2
  have Q2 := Aside0.mk q2
  have q3 : w1.drew.cell? ⟨w.heap.size, 3, none⟩ = some (.int .i64 1) := blk_cell hx2 3
  have Q3 := Aside0.mk q3
  have q4 : w1.drew.cell? ⟨w.heap.size, 4, none⟩ = some (.slice none 0 0) := blk_cell hx2 4
  have Q4 := Aside0.mk q4
  have q5 : w1.drew.cell? ⟨w.heap.size, 5, none⟩ = some (.slice none 0 0) := blk_cell hx2 5
  have Q5 := Aside0.mk q5
  have q6 : w1.drew.cell? ⟨w.heap.size, 6, none⟩ = some (.slice (some ⟨e, 0, none⟩) 1 ce) := blk_cell hx2 6
  have Q6 := Aside0.mk q6
  clear hx2
  clear HB1 HX
  refine start_ (n := 13) (S := fun w' => w'.cell? ⟨w.heap.size, 0, none⟩ = some (.int .i64 0) ∧ w'.cell? ⟨w.heap.size, 1, none⟩ = some (.int .i64 0) ∧ w'.cell? ⟨w.heap.size, 3, none⟩ = some (.int .i64 1)) (ds := []) #[false, false, false, false, false, false, false, false, false, false, false, false, false] (by kernel_rfl) rfl rfl ⟨q0, q1, q3⟩ (fun hHeld => ?_)
  generalize w1.drew = W2 at *
  refine pure_ (i := 0) (N := some 15) (v := ?_) (a' := ?_) #[true, false, false, false, false, false, false, false, false, false, false, false, false] rfl rfl (by kernel_rfl) (fun _ _ _ h => h) (Or.inl ⟨by rfl, ?_⟩) ?_ ?_
  rotate_left
  · intro w'
    go_simp
    with_reducible rfl
  rotate_left
  · simp only [Act.put, List.setIfInBounds_toArray, List.set_cons_zero, List.set_cons_succ, i64_w, i32_w]
    rfl
  refine pure_ (i := 4) (N := some 19) (v := ?_) (a' := ?_) #[true, false, false, false, true, false, false, false, false, false, false, false, false] rfl rfl (by kernel_rfl) (fun _ _ _ h => h) (Or.inl ⟨by rfl, ?_⟩) ?_ ?_
  rotate_left
  · intro w'
    go_simp
    with_reducible rfl
  rotate_left
  · simp only [Act.put, List.setIfInBounds_toArray, List.set_cons_zero, List.set_cons_succ, i64_w, i32_w]
    rfl
  refine pure_ (i := 8) (N := some 23) (v := ?_) (a' := ?_) #[true, false, false, false, true, false, false, false, true, false, false, false, false] rfl rfl (by kernel_rfl) (fun _ _ _ h => h) (Or.inl ⟨by rfl, ?_⟩) ?_ ?_
  rotate_left
  · intro w'
    go_simp
    with_reducible rfl
  rotate_left
  · simp only [Act.put, List.setIfInBounds_toArray, List.set_cons_zero, List.set_cons_succ, i64_w, i32_w]
    rfl
  refine take_ (i := 1) (N := some 16) (v := ?_) (a' := ?_) #[true, true, false, false, true, false, false, false, true, false, false, false, false] rfl rfl (by kernel_rfl) (fun _ _ _ h => h) (Or.inl ⟨by rfl, ?_⟩) hHeld ?_ ?_
  rotate_left
  · rintro w' ⟨s0, s1, s2⟩
    go_simp
    with_reducible rfl
  rotate_left
  · simp only [Act.put, List.setIfInBounds_toArray, List.set_cons_zero, List.set_cons_succ, i64_w, i32_w]
    rfl
  refine pure_ (i := 2) (N := some 17) (v := ?_) (a' := ?_) #[true, true, true, false, true, false, false, false, true, false, false, false, false] rfl rfl (by kernel_rfl) (fun _ _ _ h => h) (Or.inl ⟨by rfl, ?_⟩) ?_ ?_
  rotate_left
  · intro w'
    go_simp
    with_reducible rfl
  rotate_left
  · simp only [Act.put, List.setIfInBounds_toArray, List.set_cons_zero, List.set_cons_succ, i64_w, i32_w]
    rfl
  refine take_ (i := 5) (N := some 20) (v := ?_) (a' := ?_) #[true, true, true, false, true, true, false, false, true, false, false, false, false] rfl rfl (by kernel_rfl) (fun _ _ _ h => h) (Or.inl ⟨by rfl, ?_⟩) hHeld ?_ ?_
  rotate_left
  · rintro w' ⟨s0, s1, s2⟩
    go_simp
    with_reducible rfl
  rotate_left
  · simp only [Act.put, List.setIfInBounds_toArray, List.set_cons_zero, List.set_cons_succ, i64_w, i32_w]
    rfl
  refine pure_ (i := 6) (N := some 21) (v := ?_) (a' := ?_) #[true, true, true, false, true, true, true, false, true, false, false, false, false] rfl rfl (by kernel_rfl) (fun _ _ _ h => h) (Or.inl ⟨by rfl, ?_⟩) ?_ ?_
  rotate_left
  · intro w'
    go_simp
    with_reducible rfl
  rotate_left
  · simp only [Act.put, List.setIfInBounds_toArray, List.set_cons_zero, List.set_cons_succ, i64_w, i32_w]
    rfl
  refine take_ (i := 9) (N := some 24) (v := ?_) (a' := ?_) #[true, true, true, false, true, true, true, false, true, true, false, false, false] rfl rfl (by kernel_rfl) (fun _ _ _ h => h) (Or.inl ⟨by rfl, ?_⟩) hHeld ?_ ?_
  rotate_left
  · rintro w' ⟨s0, s1, s2⟩
    go_simp
    with_reducible rfl
  rotate_left
  · simp only [Act.put, List.setIfInBounds_toArray, List.set_cons_zero, List.set_cons_succ, i64_w, i32_w]
    rfl
  refine pure_ (i := 10) (N := some 25) (v := ?_) (a' := ?_) #[true, true, true, false, true, true, true, false, true, true, true, false, false] rfl rfl (by kernel_rfl) (fun _ _ _ h => h) (Or.inl ⟨by rfl, ?_⟩) ?_ ?_
  rotate_left
  · intro w'
    go_simp
    with_reducible rfl
  rotate_left
  · simp only [Act.put, List.setIfInBounds_toArray, List.set_cons_zero, List.set_cons_succ, i64_w, i32_w]
    rfl
  refine one_ (i := 3) (N := some 18) #[true, true, true, true, true, true, true, false, true, true, true, false, false] rfl rfl (by kernel_rfl) (by decide) (fun K hK => ?_)
  refine goes_ Tryz.func29 (by kernel_rfl) rfl #[(.slice none 0 0), .int .u64 0] (by rfl) rfl rfl (by simp only [List.map_toArray, List.map_cons, List.map_nil]; rfl) ?_
  with_reducible refine (m_pv (.slice none 0 0) [] 0 [0] W2 W2 (Below.refl _ _) (Kd.R_nil _ _ _ _ _) (by decide +kernel)).mono ?_
  rintro e wa ⟨va, rfl, hoa, hba⟩
  refine ⟨_, rfl, ?_⟩
  have HOa := Aside0.mk hoa
  have HBa := Aside0.mk hba
  clear hoa hba
  have q0 := pw_cell_below HBa.out Q0.out
  have q1 := pw_cell_below HBa.out Q1.out
  have q3 := pw_cell_below HBa.out Q3.out
  have q4 := pw_cell_below HBa.out Q4.out
  have q5 := pw_cell_below HBa.out Q5.out
  have q6 := pw_cell_below HBa.out Q6.out
  refine hK.out _ _ ⟨q0, q1, q3⟩ (fun hHeld => ?_)
  clear hK K
  refine norm_ (a' := ?_) ?_ ?_
  rotate_left
  · show Act.put _ (some 18) _ = _
    simp only [Act.put, List.setIfInBounds_toArray, List.set_cons_zero, List.set_cons_succ, i64_w, i32_w]
    rfl
  refine one_ (i := 7) (N := some 22) #[true, true, true, true, true, true, true, true, true, true, true, false, false] rfl rfl (by kernel_rfl) (by decide) (fun K hK => ?_)
  refine goes_ Tryz.func29 (by kernel_rfl) rfl #[va, .int .u64 0] (by rfl) rfl rfl (by simp only [List.map_toArray, List.map_cons, List.map_nil]; rfl) ?_
  with_reducible refine (m_pv va [0] 0 [0, 0] W2 wa HBa.out HOa.out (by decide +kernel)).mono ?_
  rintro e wb ⟨vb, rfl, hob, hbb⟩
  refine ⟨_, rfl, ?_⟩
  have HOb := Aside0.mk hob
  have HBb := Aside0.mk hbb
  clear hob hbb
  have q0 := pw_cell_below HBb.out Q0.out
  have q1 := pw_cell_below HBb.out Q1.out
  have q3 := pw_cell_below HBb.out Q3.out
  have q4 := pw_cell_below HBb.out Q4.out
  have q5 := pw_cell_below HBb.out Q5.out
  have q6 := pw_cell_below HBb.out Q6.out
  refine hK.out _ _ ⟨q0, q1, q3⟩ (fun hHeld => ?_)
  clear hK K
  refine norm_ (a' := ?_) ?_ ?_
  rotate_left
  · show Act.put _ (some 22) _ = _
    simp only [Act.put, List.setIfInBounds_toArray, List.set_cons_zero, List.set_cons_succ, i64_w, i32_w]
    rfl
  refine one_ (i := 11) (N := some 26) #[true, true, true, true, true, true, true, true, true, true, true, true, false] rfl rfl (by kernel_rfl) (by decide) (fun K hK => ?_)
  refine goes_ Tryz.func29 (by kernel_rfl) rfl #[vb, .int .u64 1] (by rfl) rfl rfl (by simp only [List.map_toArray, List.map_cons, List.map_nil]; rfl) ?_
  with_reducible refine (m_pv vb [0, 0] 1 [0, 0, 1] W2 wb HBb.out HOb.out (by decide +kernel)).mono ?_
  rintro e wc ⟨vc, rfl, hoc, hbc⟩
  refine ⟨_, rfl, ?_⟩
  have HOc := Aside0.mk hoc
  have HBc := Aside0.mk hbc
  clear hoc hbc
  have q0 := pw_cell_below HBc.out Q0.out
  have q1 := pw_cell_below HBc.out Q1.out
  have q3 := pw_cell_below HBc.out Q3.out
  have q4 := pw_cell_below HBc.out Q4.out
  have q5 := pw_cell_below HBc.out Q5.out
  have q6 := pw_cell_below HBc.out Q6.out
  refine hK.out _ _ ⟨q0, q1, q3⟩ (fun hHeld => ?_)
  clear hK K
  refine norm_ (a' := ?_) ?_ ?_
  rotate_left
  · show Act.put _ (some 26) _ = _
    simp only [Act.put, List.setIfInBounds_toArray, List.set_cons_zero, List.set_cons_succ, i64_w, i32_w]
    rfl
  refine pure_ (i := 12) (N := some 5) (v := ?_) (a' := ?_) #[true, true, true, true, true, true, true, true, true, true, true, true, true] rfl rfl (by kernel_rfl) (fun _ _ _ h => h) (Or.inl ⟨by rfl, ?_⟩) ?_ ?_
  rotate_left
  · intro w'
    go_simp
    with_reducible rfl
  rotate_left
  · simp only [Act.put, List.setIfInBounds_toArray, List.set_cons_zero, List.set_cons_succ, i64_w, i32_w]
    rfl
  refine done_ (by kernel_rfl) ?_
  have HMc := Aside0.mk (HM1.out.below HBc.out)
  have q2 := pw_cell_below HBc.out Q2.out
  go_wp2_with fail
  refine (value_PutSchema.calls 5 (some ⟨s, 0, none⟩) cs [⟨1, false, -1⟩] [1, 1, 0, 0] wc HMc.out.2.2.1 HMc.out.1 m_schemaBytes).mono ?_
  rintro e' wd ⟨vd, rfl, hr, hb⟩
  obtain ⟨Ad, cd, rfl⟩ := Kd.R_slice hr
  have HBd := Aside0.mk (HBc.out.trans (hb.mono HBc.out.size))
  have HOd := Aside0.mk (Kd.R_below HOc.out hb)
  have HRd := Aside0.mk (Kd.R_reads' hr).2.2
  clear hr hb
  have q0 := pw_cell_below HBd.out Q0.out
  have q1 := pw_cell_below HBd.out Q1.out
  have q3 := pw_cell_below HBd.out Q3.out
  have q4 := pw_cell_below HBd.out Q4.out
  have q5 := pw_cell_below HBd.out Q5.out
  have q6 := pw_cell_below HBd.out Q6.out
  go_wp2_with ((with_reducible refine gate_builtin (b := .append) (xs := #[.tmp 27, .tmp 30]) rfl ?_); at_builtin; refine Kd.R_append_rows (Kd.int .u8) (w0 := W2) W2.heap.size rfl (.tmp 27) (.tmp 30) 30 5 (.int .u8 0) 1 rfl Tryz.underlying30 info5 rfl (by decide) (by omega) vc [0, 0, 1] [1, 1, 0, 0] _ _ _ (fun _ => True) (fun _ => False) rfl rfl HOd.out HRd.out (fun _ _ h => h) (fun _ h => h.elim) (fun _ _ => trivial) HBd.out HBd.out.size (by decide) ?_; intro ve we ho hb hg hat; have HOe := Aside0.mk ho; have HBe := Aside0.mk hb; clear ho hb hg hat; have q0 := pw_cell_below HBe.out Q0.out; have q1 := pw_cell_below HBe.out Q1.out; have q3 := pw_cell_below HBe.out Q3.out; have q4 := pw_cell_below HBe.out Q4.out; have q5 := pw_cell_below HBe.out Q5.out; have q6 := pw_cell_below HBe.out Q6.out)
  refine (m_pv ve ([0, 0, 1] ++ [1, 1, 0, 0]) 0 ([0, 0, 1, 1, 1, 0, 0] ++ [0]) W2 we HBe.out HOe.out (by decide +kernel)).mono ?_
  rintro e' wf ⟨vf, rfl, hr, hb⟩
  have HBf0 := Aside0.mk hb
  have HBf := Aside0.mk (below_drew hb)
  have HOf := Aside0.mk (Kd.R_below hr (below_drew (Below.refl _ wf)))
  clear hr hb
  have q0 := pw_cell_below HBf0.out Q0.out
  have q1 := pw_cell_below HBf0.out Q1.out
  have q3 := pw_cell_below HBf0.out Q3.out
  have q4 := pw_cell_below HBf0.out Q4.out
  have q5 := pw_cell_below HBf0.out Q5.out
  have q6 := pw_cell_below HBf0.out Q6.out
  go_wp2_with fail
  refine wp_loop_rounds 1 ?_
  rw [rounds_succ]
  go_wp2_with fail
  have q0 := pw_cell_below HBf.out Q0.out
  have q1 := pw_cell_below HBf.out Q1.out
  have q3 := pw_cell_below HBf.out Q3.out
  have q4 := pw_cell_below HBf.out Q4.out
  have q5 := pw_cell_below HBf.out Q5.out
  have q6 := pw_cell_below HBf.out Q6.out
  refine start_ (n := 10) (S := fun w' => w'.cell? ⟨w.heap.size, 5, none⟩ = some (.slice none 0 0) ∧ w'.cell? ⟨w.heap.size, 6, none⟩ = some (.slice (some ⟨e, 0, none⟩) 1 ce)) (ds := []) #[false, false, false, false, false, false, false, false, false, false] (by kernel_rfl) rfl rfl ⟨q5, q6⟩ (fun hHeld => ?_)
  refine pure_ (i := 0) (N := some 59) (v := ?_) (a' := ?_) #[true, false, false, false, false, false, false, false, false, false] rfl rfl (by kernel_rfl) (fun _ _ _ h => h) (Or.inl ⟨by rfl, ?_⟩) ?_ ?_
  rotate_left
  · intro w'
    go_simp
    with_reducible rfl
  rotate_left
  · simp only [Act.put, List.setIfInBounds_toArray, List.set_cons_zero, List.set_cons_succ, i64_w, i32_w]
    rfl
  refine pure_ (i := 1) (N := some 60) (v := ?_) (a' := ?_) #[true, true, false, false, false, false, false, false, false, false] rfl rfl (by kernel_rfl) (fun _ _ _ h => h) (Or.inl ⟨by rfl, ?_⟩) ?_ ?_
  rotate_left
  · intro w'
    go_simp
    with_reducible rfl
  rotate_left
  · simp only [Act.put, List.setIfInBounds_toArray, List.set_cons_zero, List.set_cons_succ, i64_w, i32_w]
    rfl
  refine pure_ (i := 4) (N := some 63) (v := ?_) (a' := ?_) #[true, true, false, false, true, false, false, false, false, false] rfl rfl (by kernel_rfl) (fun _ _ _ h => h) (Or.inl ⟨by rfl, ?_⟩) ?_ ?_
  rotate_left
  · intro w'
    go_simp
    with_reducible rfl
  rotate_left
  · simp only [Act.put, List.setIfInBounds_toArray, List.set_cons_zero, List.set_cons_succ, i64_w, i32_w]
    rfl
  refine take_ (i := 2) (N := some 61) (v := ?_) (a' := ?_) #[true, true, true, false, true, false, false, false, false, false] rfl rfl (by kernel_rfl) (fun _ _ _ h => h) (Or.inl ⟨by rfl, ?_⟩) hHeld ?_ ?_
  rotate_left
  · rintro w' ⟨s0, s1⟩
    go_simp
    with_reducible rfl
  rotate_left
  · simp only [Act.put, List.setIfInBounds_toArray, List.set_cons_zero, List.set_cons_succ, i64_w, i32_w]
    rfl
  refine take_ (i := 5) (N := some 64) (v := ?_) (a' := ?_) #[true, true, true, false, true, true, false, false, false, false] rfl rfl (by kernel_rfl) (fun _ _ _ h => h) (Or.inl ⟨by rfl, ?_⟩) hHeld ?_ ?_
  rotate_left
  · rintro w' ⟨s0, s1⟩
    go_simp
    with_reducible rfl
  rotate_left
  · simp only [Act.put, List.setIfInBounds_toArray, List.set_cons_zero, List.set_cons_succ, i64_w, i32_w]
    rfl
  refine pure_ (i := 6) (N := some 65) (v := ?_) (a' := ?_) #[true, true, true, false, true, true, true, false, false, false] rfl rfl (by kernel_rfl) (fun _ _ _ h => h) (Or.inl ⟨by rfl, ?_⟩) ?_ ?_
  rotate_left
  · intro w'
    go_simp
    with_reducible rfl
  rotate_left
  · simp only [Act.put, List.setIfInBounds_toArray, List.set_cons_zero, List.set_cons_succ, i64_w, i32_w]
    rfl
  refine pure_ (i := 7) (N := some 66) (v := ?_) (a' := ?_) #[true, true, true, false, true, true, true, true, false, false] rfl rfl (by kernel_rfl) (fun _ _ _ h => h) (Or.inl ⟨by rfl, ?_⟩) ?_ ?_
  rotate_left
  · intro w'
    go_simp
    with_reducible rfl
  rotate_left
  · simp only [Act.put, List.setIfInBounds_toArray, List.set_cons_zero, List.set_cons_succ, i64_w, i32_w]
    rfl
  refine one_ (i := 3) (N := some 62) #[true, true, true, true, true, true, true, true, false, false] rfl rfl (by kernel_rfl) (by decide) (fun K hK => ?_)
  refine goes_ Tryz.func33 (by kernel_rfl) rfl #[vf, .slice none 0 0] (by rfl) rfl rfl (by simp only [List.map_toArray, List.map_cons, List.map_nil]; rfl) ?_
  with_reducible refine (m_putrows vf ([0, 0, 1, 1, 1, 0, 0] ++ [0]) ([0, 0, 1, 1, 1, 0, 0] ++ [0, 0]) W2 wf.drew HBf.out HOf.out (by decide +kernel)).mono ?_
  rintro e' wg ⟨vg, rfl, hog, hbg⟩
  refine ⟨_, rfl, ?_⟩
  have HOg := Aside0.mk hog
  have HBg := Aside0.mk hbg
  clear hog hbg
  have q0 := pw_cell_below HBg.out Q0.out
  have q1 := pw_cell_below HBg.out Q1.out
  have q3 := pw_cell_below HBg.out Q3.out
  have q4 := pw_cell_below HBg.out Q4.out
  have q5 := pw_cell_below HBg.out Q5.out
  have q6 := pw_cell_below HBg.out Q6.out
  refine hK.out _ _ ⟨q5, q6⟩ (fun hHeld => ?_)
  clear hK K
  refine norm_ (a' := ?_) ?_ ?_
  rotate_left
  · show Act.put _ (some 62) _ = _
    simp only [Act.put, List.setIfInBounds_toArray, List.set_cons_zero, List.set_cons_succ, i64_w, i32_w]
    rfl
  refine one_ (i := 8) (N := some 67) #[true, true, true, true, true, true, true, true, true, false] rfl rfl (by kernel_rfl) (by decide) (fun K hK => ?_)
  refine goes_ Tryz.func29 (by kernel_rfl) rfl #[vg, .int .u64 1] (by rfl) rfl rfl (by simp only [List.map_toArray, List.map_cons, List.map_nil]; rfl) ?_
  with_reducible refine (m_pv vg ([0, 0, 1, 1, 1, 0, 0] ++ [0, 0]) 1 ([0, 0, 1, 1, 1, 0, 0] ++ [0, 0, 1]) W2 wg HBg.out HOg.out (by decide +kernel)).mono ?_
  rintro e wh ⟨vh, rfl, hoh, hbh⟩
  refine ⟨_, rfl, ?_⟩
  have HOh := Aside0.mk hoh
  have HBh := Aside0.mk hbh
  clear hoh hbh
  have q0 := pw_cell_below HBh.out Q0.out
  have q1 := pw_cell_below HBh.out Q1.out
  have q3 := pw_cell_below HBh.out Q3.out
  have q4 := pw_cell_below HBh.out Q4.out
  have q5 := pw_cell_below HBh.out Q5.out
  have q6 := pw_cell_below HBh.out Q6.out
  refine hK.out _ _ ⟨q5, q6⟩ (fun hHeld => ?_)
  clear hK K
  refine norm_ (a' := ?_) ?_ ?_
  rotate_left
  · show Act.put _ (some 67) _ = _
    simp only [Act.put, List.setIfInBounds_toArray, List.set_cons_zero, List.set_cons_succ, i64_w, i32_w]
    rfl
  refine pure_ (i := 9) (N := some 5) (v := ?_) (a' := ?_) #[true, true, true, true, true, true, true, true, true, true] rfl rfl (by kernel_rfl) (fun _ _ _ h => h) (Or.inl ⟨by rfl, ?_⟩) ?_ ?_
  rotate_left
  · intro w'
    go_simp
    with_reducible rfl
  rotate_left
  · simp only [Act.put, List.setIfInBounds_toArray, List.set_cons_zero, List.set_cons_succ, i64_w, i32_w]
    rfl
  refine done_ (by kernel_rfl) ?_
  have HMh := Aside0.mk (HM1.out.below HBh.out)
  go_wp2_with fail
  refine wp_loop_rounds 2 ?_
  rw [rounds_succ]
  have hone : Tryz.zeroCells81.all (·.oneCell') = true := by kernel_rfl
  go_wp2_with (first | (refine wpList_load_mid rfl 81 (.tmp 73) rfl e 0 rfl Tryz.zeroCells81.toList _ HMh.out.2.2.2 Tryz.underlying81 rfl (by kernel_rfl) ?_) | (refine wpList_store_row rfl 81 (.tmp 9) (.tmp 74) rfl wh.heap.size Tryz.zeroCells81 rfl rfl 81 Tryz.zeroCells81 (heap_alloc_new wh _) (by rw [ents_size]; kernel_rfl) rfl hone ?_; rw [World.setRow_alloc_new]) | (refine wpList_load_row rfl 81 (.tmp 9) rfl wh.heap.size rfl 81 Tryz.zeroCells81 (0, 0) _ (heap_alloc_new wh _) Tryz.underlying81 rfl (by rw [ents_size]; kernel_rfl) ?_))
  have hbi : Below wh.heap.size wh (wh.alloc (.cells Tryz.zeroCells81 81)) := below_alloc (Below.refl _ _) _
  refine (led_putE (wh.alloc (.cells Tryz.zeroCells81 81))).mono ?_
  rintro e' wi ⟨vi, rfl, hr, hb⟩
  obtain ⟨Ai, ci, rfl⟩ := Kd.R_slice hr
  have HBi := Aside0.mk (HBh.out.trans ((hbi.trans (hb.mono hbi.size)).mono HBh.out.size))
  have HOi := Aside0.mk (Kd.R_below (Kd.R_below HOh.out hbi) hb)
  have HRi := Aside0.mk (Kd.R_reads' hr).2.2
  clear hr hb hbi
  go_wp2_with ((with_reducible refine gate_builtin (b := .append) (xs := #[.tmp 75, .tmp 77]) rfl ?_); at_builtin; refine Kd.R_append_rows (Kd.int .u8) (w0 := W2) W2.heap.size rfl (.tmp 75) (.tmp 77) 30 5 (.int .u8 0) 1 rfl Tryz.underlying30 info5 rfl (by decide) (by omega) vh ([0, 0, 1, 1, 1, 0, 0] ++ [0, 0, 1]) (List.replicate 65 0) _ _ _ (fun _ => True) (fun _ => False) rfl rfl HOi.out HRi.out (fun _ _ h => h) (fun _ h => h.elim) (fun _ _ => trivial) HBi.out HBi.out.size (by decide) ?_; intro vj wj ho hb hg hat; have HOj := Aside0.mk ho; have HBj := Aside0.mk hb; clear ho hb hg hat; have q0 := pw_cell_below HBj.out Q0.out; have q1 := pw_cell_below HBj.out Q1.out; have q3 := pw_cell_below HBj.out Q3.out; have q4 := pw_cell_below HBj.out Q4.out; have q5 := pw_cell_below HBj.out Q5.out; have q6 := pw_cell_below HBj.out Q6.out)
  rw [rounds_succ]
  go_wp2_with fail
  obtain ⟨Aj, cj, rfl⟩ := Kd.R_slice HOj.out
  have hcj := Kd.R_reads' HOj.out
  refine (frame_Put.calls 5 Aj cj leastL leastF 0 wj hcj.2.2 hcj.2.1 leastF_is).mono ?_
  rintro e' wk ⟨vk, rfl, hr, hb⟩
  have HOk := Aside0.mk hr
  have HBk := Aside0.mk hb
  clear hr hb hcj
  go_wp2
  go_ret2
  have z := HBW.out.size
  have z2 := HBj.out.size
  exact ⟨_, rfl, Kd.R_lower HOk.out (by omega), HBW.out.trans ((HBj.out.mono z).trans (HBk.out.mono (by omega)))⟩

end Go.Proofs.YtjmhiklmlgbifaaGreatDoor.PMan
end
section
namespace Go.Proofs.YtjmhiklmlgbifaaGreatDoor.PMan
open Go.RowKit Go.Proofs.YtjmhiklmlgbifaaGreatDoorW.PrintWords Go.Proofs.YtjmhiklmlgbifaaGreatDoorW.PrintLast Go.Proofs.YtjmhiklmlgbifaaGreatDoorW.PrintMore
attribute [local go_sem] max2_int min2_int max_two min_two max_three min_three max_four min_four   -- for this text's walks alone
set_option linter.unusedVariables false
set_option linter.unusedSimpArgs false

-- The reader's functions, where no error comes up.
set_option maxHeartbeats 1600000 in
set_option maxRecDepth 100000 in
theorem rd_var (k : Nat) (g : Nat) (s0 : List Int) (s1 : Int) (v n : Int) (w0 w : World) (hI : RD w0 w g s0 s1 0 0) (hB : Below w0.heap.size w0 w) (h0 : 0 ≤ s1) (h1 : s1 ≤ s0.length) (hn : wrap64 (s1 + n) = s1 + n) (hf : num_short.f k (s0.drop s1.toNat) = some (v, n, 0)) :
    Calls Tryz.prog 118 #[.pointer (some ⟨g, 0, none⟩)] w fun e w' => e = .returned (.int .u64 v) ∧ RD w0 w' g s0 (s1 + n) 0 0 ∧ Below w0.heap.size w0 w' ∧ KeepBut w w' g none := by
  have HI := Aside0.mk hI
  have HB := Aside0.mk hB
  have HF := Aside0.mk hf
  have HN := Aside0.mk hn
  obtain ⟨A, c, ev, k1, k2, k3, k4, k5⟩ := hI
  obtain ⟨i0, hi0, hz0⟩ := Option.map_eq_some_iff.1 clone_info
  simp only [Prod.mk.injEq] at hz0
  obtain ⟨A', hcut, hcr, hcl⟩ := print_cut_int (P := Tryz.prog) (k := .u8) 30 5 Tryz.underlying30 hi0 hz0.2.1 A c s0 s1 h0 h1 k4
  have hc0 := blk_cell k1 0
  have hc1 := blk_cell k1 1
  simp only [List.getElem?_toArray] at hc0 hc1
  have K1 := Aside0.mk k1
  have K2 := Aside0.mk k2
  have KR := Aside0.mk (show Kd.C (Kd.int .u8) w0 A' (s0.drop s1.toNat).length (s0.drop s1.toNat) from Kd.C_of_reads (d := (0 : Int)) (h1 := fun _ => rfl) (hcr w0 (Kd.reads_of_C k3)))
  have KC := Aside0.mk hcl
  clear hB hf hn k1 k2 k3 k4 k5 h0 h1 hcr hcl hz0 hi0
  generalize s0.drop s1.toNat = out at *
  go_enter Tryz.func118, Tryz.ntmps118
  go_wp2_with fail
  refine (rd_ok g s0 _ _ _ w0 _ HI.out).mono ?_
  rintro e w' ⟨rfl, rfl⟩
  go_wp2_with fail
  refine start_ (n := 17) (S := fun w' => w'.cell? ⟨g, 0, none⟩ = some (.slice A s0.length c) ∧ w'.cell? ⟨g, 1, none⟩ = some (.int .i64 s1)) (ds := []) #[false, false, false, false, false, false, false, false, false, false, false, false, false, false, false, false, false] (by kernel_rfl) rfl rfl ⟨hc0, hc1⟩ (fun hHeld => ?_)
  refine pure_ (i := 0) (N := some 10) (v := ?_) (a' := ?_) #[true, false, false, false, false, false, false, false, false, false, false, false, false, false, false, false, false] rfl rfl (by kernel_rfl) (fun _ _ _ h => h) (Or.inl ⟨by rfl, ?_⟩) ?_ ?_
  rotate_left
  · intro w'
    go_simp
    with_reducible rfl
  rotate_left
  · simp only [Act.put, List.setIfInBounds_toArray, List.set_cons_zero, List.set_cons_succ, i64_w, i32_w]
    rfl
  refine pure_ (i := 1) (N := some 11) (v := ?_) (a' := ?_) #[true, true, false, false, false, false, false, false, false, false, false, false, false, false, false, false, false] rfl rfl (by kernel_rfl) (fun _ _ _ h => h) (Or.inl ⟨by rfl, ?_⟩) ?_ ?_
  rotate_left
  · intro w'
    go_simp
    with_reducible rfl
  rotate_left
  · simp only [Act.put, List.setIfInBounds_toArray, List.set_cons_zero, List.set_cons_succ, i64_w, i32_w]
    rfl
  refine pure_ (i := 2) (N := some 12) (v := ?_) (a' := ?_) #[true, true, true, false, false, false, false, false, false, false, false, false, false, false, false, false, false] rfl rfl (by kernel_rfl) (fun _ _ _ h => h) (Or.inl ⟨by rfl, ?_⟩) ?_ ?_
  rotate_left
  · intro w'
    go_simp
    with_reducible rfl
  rotate_left
  · simp only [Act.put, List.setIfInBounds_toArray, List.set_cons_zero, List.set_cons_succ, i64_w, i32_w]
    rfl
  refine pure_ (i := 4) (N := some 14) (v := ?_) (a' := ?_) #[true, true, true, false, true, false, false, false, false, false, false, false, false, false, false, false, false] rfl rfl (by kernel_rfl) (fun _ _ _ h => h) (Or.inl ⟨by rfl, ?_⟩) ?_ ?_
  rotate_left
  · intro w'
    go_simp
    with_reducible rfl
  rotate_left
  · simp only [Act.put, List.setIfInBounds_toArray, List.set_cons_zero, List.set_cons_succ, i64_w, i32_w]
    rfl
  refine pure_ (i := 5) (N := some 15) (v := ?_) (a' := ?_) #[true, true, true, false, true, true, false, false, false, false, false, false, false, false, false, false, false] rfl rfl (by kernel_rfl) (fun _ _ _ h => h) (Or.inl ⟨by rfl, ?_⟩) ?_ ?_
  rotate_left
  · intro w'
    go_simp
    with_reducible rfl
  rotate_left
  · simp only [Act.put, List.setIfInBounds_toArray, List.set_cons_zero, List.set_cons_succ, i64_w, i32_w]
    rfl
  refine pure_ (i := 6) (N := some 16) (v := ?_) (a' := ?_) #[true, true, true, false, true, true, true, false, false, false, false, false, false, false, false, false, false] rfl rfl (by kernel_rfl) (fun _ _ _ h => h) (Or.inl ⟨by rfl, ?_⟩) ?_ ?_
  rotate_left
  · intro w'
    go_simp
    with_reducible rfl
  rotate_left
  · simp only [Act.put, List.setIfInBounds_toArray, List.set_cons_zero, List.set_cons_succ, i64_w, i32_w]
    rfl
  refine take_ (i := 3) (N := some 13) (v := ?_) (a' := ?_) #[true, true, true, true, true, true, true, false, false, false, false, false, false, false, false, false, false] rfl rfl (by kernel_rfl) (fun _ _ _ h => h) (Or.inl ⟨by rfl, ?_⟩) hHeld ?_ ?_
  rotate_left
  · rintro w' ⟨s0, s1⟩
    go_simp
    with_reducible rfl
  rotate_left
  · simp only [Act.put, List.setIfInBounds_toArray, List.set_cons_zero, List.set_cons_succ, i64_w, i32_w]
    rfl
  refine take_ (i := 7) (N := some 17) (v := ?_) (a' := ?_) #[true, true, true, true, true, true, true, true, false, false, false, false, false, false, false, false, false] rfl rfl (by kernel_rfl) (fun _ _ _ h => h) (Or.inl ⟨by rfl, ?_⟩) hHeld ?_ ?_
  rotate_left
  · rintro w' ⟨s0, s1⟩
    go_simp
    with_reducible rfl
  rotate_left
  · simp only [Act.put, List.setIfInBounds_toArray, List.set_cons_zero, List.set_cons_succ, i64_w, i32_w]
    rfl
  refine pure_ (i := 8) (N := some 18) (v := ?_) (a' := ?_) #[true, true, true, true, true, true, true, true, true, false, false, false, false, false, false, false, false] rfl rfl (by kernel_rfl) (fun _ _ _ h => h) (Or.inl ⟨by rfl, ?_⟩) ?_ ?_
  rotate_left
  · intro w'
    go_simp
    with_reducible rfl
  rotate_left
  · simp only [Act.put, List.setIfInBounds_toArray, List.set_cons_zero, List.set_cons_succ, i64_w, i32_w]
    rfl
  refine one_ (i := 9) (N := some 19) #[true, true, true, true, true, true, true, true, true, true, false, false, false, false, false, false, false] rfl rfl (by kernel_rfl) (by decide) (fun K hK => ?_)
  refine goes_ Tryz.func125 (by kernel_rfl) rfl #[.slice A' out.length (c - s1.toNat)] (by rfl) rfl rfl (by simp only [List.map_toArray, List.map_cons, List.map_nil]; rfl) ?_
  with_reducible refine (num_short.calls k A' (c - s1.toNat) out v n 0 w.drew (Kd.C_drew (Kd.C_below KR.out HB.out)) KC.out HF.out).mono ?_
  rintro e w' ⟨rfl, ⟨nd, rfl⟩⟩
  refine ⟨_, rfl, ?_⟩
  have hblk := blk_drewN (show w.drew.heap[g]? = _ from K1.out) nd
  have hc0 := blk_cell hblk 0
  have hc1 := blk_cell hblk 1
  simp only [List.getElem?_toArray] at hc0 hc1
  refine hK.out _ _ ⟨hc0, hc1⟩ (fun hHeld => ?_)
  clear hK K
  refine norm_ (a' := ?_) ?_ ?_
  rotate_left
  · show Act.put _ (some 19) _ = _
    simp only [Act.put, List.setIfInBounds_toArray, List.set_cons_zero, List.set_cons_succ, i64_w, i32_w]
    rfl
  refine pure_ (i := 10) (N := some 9) (v := ?_) (a' := ?_) #[true, true, true, true, true, true, true, true, true, true, true, false, false, false, false, false, false] rfl rfl (by kernel_rfl) (fun _ _ _ h => h) (Or.inl ⟨by rfl, ?_⟩) ?_ ?_
  rotate_left
  · intro w'
    go_simp
    with_reducible rfl
  rotate_left
  · simp only [Act.put, List.setIfInBounds_toArray, List.set_cons_zero, List.set_cons_succ, i64_w, i32_w]
    rfl
  refine pure_ (i := 11) (N := some 20) (v := ?_) (a' := ?_) #[true, true, true, true, true, true, true, true, true, true, true, true, false, false, false, false, false] rfl rfl (by kernel_rfl) (fun _ _ _ h => h) (Or.inl ⟨by rfl, ?_⟩) ?_ ?_
  rotate_left
  · intro w'
    go_simp
    with_reducible rfl
  rotate_left
  · simp only [Act.put, List.setIfInBounds_toArray, List.set_cons_zero, List.set_cons_succ, i64_w, i32_w]
    rfl
  refine pure_ (i := 12) (N := some 21) (v := ?_) (a' := ?_) #[true, true, true, true, true, true, true, true, true, true, true, true, true, false, false, false, false] rfl rfl (by kernel_rfl) (fun _ _ _ h => h) (Or.inl ⟨by rfl, ?_⟩) ?_ ?_
  rotate_left
  · intro w'
    go_simp
    with_reducible rfl
  rotate_left
  · simp only [Act.put, List.setIfInBounds_toArray, List.set_cons_zero, List.set_cons_succ, i64_w, i32_w]
    rfl
  refine pure_ (i := 13) (N := some 22) (v := ?_) (a' := ?_) #[true, true, true, true, true, true, true, true, true, true, true, true, true, true, false, false, false] rfl rfl (by kernel_rfl) (fun _ _ _ h => h) (Or.inl ⟨by rfl, ?_⟩) ?_ ?_
  rotate_left
  · intro w'
    go_simp
    with_reducible rfl
  rotate_left
  · simp only [Act.put, List.setIfInBounds_toArray, List.set_cons_zero, List.set_cons_succ, i64_w, i32_w]
    rfl
  refine pure_ (i := 14) (N := some 3) (v := ?_) (a' := ?_) #[true, true, true, true, true, true, true, true, true, true, true, true, true, true, true, false, false] rfl rfl (by kernel_rfl) (fun _ _ _ h => h) (Or.inl ⟨by rfl, ?_⟩) ?_ ?_
  rotate_left
  · intro w'
    go_simp
    with_reducible rfl
  rotate_left
  · simp only [Act.put, List.setIfInBounds_toArray, List.set_cons_zero, List.set_cons_succ, i64_w, i32_w]
    rfl
  refine pure_ (i := 15) (N := some 4) (v := ?_) (a' := ?_) #[true, true, true, true, true, true, true, true, true, true, true, true, true, true, true, true, false] rfl rfl (by kernel_rfl) (fun _ _ _ h => h) (Or.inl ⟨by rfl, ?_⟩) ?_ ?_
  rotate_left
  · intro w'
    go_simp
    with_reducible rfl
  rotate_left
  · simp only [Act.put, List.setIfInBounds_toArray, List.set_cons_zero, List.set_cons_succ, i64_w, i32_w]
    rfl
  refine pure_ (i := 16) (N := some 5) (v := ?_) (a' := ?_) #[true, true, true, true, true, true, true, true, true, true, true, true, true, true, true, true, true] rfl rfl (by kernel_rfl) (fun _ _ _ h => h) (Or.inl ⟨by rfl, ?_⟩) ?_ ?_
  rotate_left
  · intro w'
    go_simp
    with_reducible rfl
  rotate_left
  · simp only [Act.put, List.setIfInBounds_toArray, List.set_cons_zero, List.set_cons_succ, i64_w, i32_w]
    rfl
  refine done_ (by kernel_rfl) ?_
  have hblk2 := blk_drewN K1.out (1 + nd)
  have hd1 : (w.drewN (1 + nd)).cell? ⟨g, 1, none⟩ = some (.int .i64 s1) := blk_cell hblk2 1
  have hf1 := blk_frozen hblk2 1
  go_wp2_with fail
  refine (rd_fail_no g s0 _ _ _ 0 w0 _ (HI.out.drewN (1 + nd)) (.inr rfl)).mono ?_
  rintro e w' ⟨rfl, rfl⟩
  go_wp2
  go_ret
  rw [HN.out]
  have hrd := (HI.out.drewN (1 + nd)).set_at (s1 + n)
  exact ⟨rfl, hrd, HB.out.trans ((pw_below_drewN (Below.refl _ w) (1 + nd)).setCell K2.out _), (KeepBut.of_below (pw_below_drewN (Below.refl _ w) (1 + nd)) g none).set_ 1 _⟩
set_option maxHeartbeats 1600000 in
set_option maxRecDepth 100000 in
theorem rd_number (k : Nat) (g : Nat) (s0 : List Int) (s1 : Int) (v n : Int) (w0 w : World) (hI : RD w0 w g s0 s1 0 0) (hB : Below w0.heap.size w0 w) (h0 : 0 ≤ s1) (h1 : s1 ≤ s0.length) (hn : wrap64 (s1 + n) = s1 + n) (hf : num_short.f k (s0.drop s1.toNat) = some (v, n, 0)) (hv : 0 ≤ v) (hv2 : v ≤ 1099511627776) :
    Calls Tryz.prog 90 #[.pointer (some ⟨g, 0, none⟩)] w fun e w' => e = .returned (.int .i64 v) ∧ RD w0 w' g s0 (s1 + n) 0 0 ∧ Below w0.heap.size w0 w' ∧ KeepBut w w' g none := by
  have HI := Aside0.mk hI
  have HB := Aside0.mk hB
  have HF := Aside0.mk hf
  have HN := Aside0.mk hn
  have H0 := Aside0.mk h0
  have H1 := Aside0.mk h1
  have hw : wrap64 v = v := by unfold wrap64; omega
  have hd : ¬ (1099511627777 < v) := by omega
  have hd2 : v < 1099511627777 := by omega
  clear hI hB hf hn h0 h1
  go_enter Tryz.func90, Tryz.ntmps90
  go_wp2_with fail
  refine (rd_var k g s0 s1 v n w0 _ HI.out HB.out H0.out H1.out HN.out HF.out).mono ?_
  rintro e w' ⟨rfl, h1, h2, h3⟩
  have H := Aside0.mk (And.intro h1 (And.intro h2 h3))
  clear h1 h2 h3
  go_wp2

  go_ret
  exact ⟨by simp [hw], H.out⟩
set_option maxHeartbeats 1600000 in
set_option maxRecDepth 100000 in
theorem rd_good (g : Nat) (s0 : List Int) (s1 : Int) (w0 w : World) (hG : ErrT w) (hI : RD w0 w g s0 s1 0 0) :
    Calls Tryz.prog 120 #[.pointer (some ⟨g, 0, none⟩)] w fun e w' => e = .returned (.bool true) ∧ Below w.heap.size w w' := by
  have HI := Aside0.mk hI
  have HG := Aside0.mk hG
  clear hI hG
  go_enter Tryz.func120, Tryz.ntmps120
  go_wp2_with fail
  refine (rd_err g s0 s1 0 0 w0 w HG.out HI.out).mono ?_
  rintro e w' ⟨rfl, hb⟩
  have HB := Aside0.mk hb
  clear hb
  go_wp2
  go_ret
  exact ⟨rfl, HB.out⟩
set_option maxHeartbeats 1600000 in
set_option maxRecDepth 100000 in
theorem rd_end (g : Nat) (s0 : List Int) (s1 : Int) (w0 w : World) (hG : ErrT w) (hI : RD w0 w g s0 s1 0 0) (he : wrap64 ((s0.length : Int) - s1) = 0) :
    Calls Tryz.prog 96 #[.pointer (some ⟨g, 0, none⟩)] w fun e w' => e = .returned (.tuple #[.int .i64 0, .int .i64 0]) ∧ Below w.heap.size w w' := by
  have HI := Aside0.mk hI
  have HG := Aside0.mk hG
  have HE := Aside0.mk he
  clear hI hG he
  go_enter Tryz.func96, Tryz.ntmps96
  go_wp2_with fail
  refine (rd_err g s0 s1 0 0 w0 w HG.out HI.out).mono ?_
  rintro e w1 ⟨rfl, hb⟩
  have HB := Aside0.mk hb
  have HI1 := Aside0.mk (HI.out.below hb)
  clear hb
  go_wp2_with fail
  refine (rd_left g s0 s1 0 0 w0 w1 HI1.out).mono ?_
  rintro e w2 ⟨rfl, ⟨nd, rfl⟩⟩
  rw [HE.out]
  go_wp2
  go_ret2
  exact ⟨rfl, HB.out.trans ((pw_below_drewN (Below.refl _ w1) nd).mono HB.out.size)⟩

end Go.Proofs.YtjmhiklmlgbifaaGreatDoor.PMan
end
section
namespace Go.Proofs.YtjmhiklmlgbifaaGreatDoor.PMan
open Go.RowKit Go.Proofs.YtjmhiklmlgbifaaGreatDoorW.PrintWords Go.Proofs.YtjmhiklmlgbifaaGreatDoorW.PrintLast Go.Proofs.YtjmhiklmlgbifaaGreatDoorW.PrintMore
attribute [local go_sem] max2_int min2_int max_two min_two max_three min_three max_four min_four   -- for this text's walks alone
set_option linter.unusedVariables false
set_option linter.unusedSimpArgs false

theorem lf3 : num_Reader_Fix.f leastL 3 0 0 1 = some (1, 4, 0, 0) := by decide +kernel
theorem lf4 : num_Reader_Fix.f leastL 4 0 0 1 = some (1, 5, 0, 0) := by decide +kernel
theorem lf5 : num_Reader_Fix.f leastL 5 0 0 1 = some (0, 6, 0, 0) := by decide +kernel
theorem lf6 : num_Reader_Fix.f leastL 6 0 0 1 = some (0, 7, 0, 0) := by decide +kernel
theorem keep_then {w W W1 : World} {g : Nat} (h : KeepBut w W g none) (h2 : KeepBut W W1 g none) : KeepBut w W1 g none :=
  ⟨Nat.le_trans h.1 h2.1, fun i hi h3 h4 => (h2.2 i (Nat.lt_of_lt_of_le hi h.1) h3 h4).trans (h.2 i hi h3 h4)⟩
set_option maxHeartbeats 4000000 in
set_option maxRecDepth 100000 in
theorem rd_takeSchema (g : Nat) (w0 w : World) (hG : ErrT w0) (hI : RD w0 w g leastL 3 0 0) (hB : Below w0.heap.size w0 w) :
    Calls Tryz.prog 91 #[.pointer (some ⟨g, 0, none⟩)] w fun e w' => ∃ s c, e = .returned (.slice (some ⟨s, 0, none⟩) 1 c) ∧ 1 ≤ c ∧ Kd.C k123 w' (some ⟨s, 0, none⟩) 1 [⟨1, false, -1⟩] ∧ w.heap.size ≤ s ∧ s < w'.heap.size ∧ RD w0 w' g leastL 7 0 0 ∧ Below w0.heap.size w0 w' ∧ KeepBut w w' g none := by
  have HG := Aside0.mk hG
  have HI := Aside0.mk hI
  have HB := Aside0.mk hB
  clear hG hI hB
  go_enter Tryz.func91, Tryz.ntmps91
  go_wp2_with fail
  refine (num_Reader_Fix.calls g leastL 3 0 0 1 1 4 0 0 w0 w HI.out HB.out lf3).mono ?_
  rintro e wa ⟨rfl, h1, h2, h3⟩
  have HIa := Aside0.mk h1
  have HBa := Aside0.mk h2
  have HKa := Aside0.mk h3
  clear h1 h2 h3
  go_wp2_with fail
  refine wp_loop_rounds 2 ?_
  rw [rounds_succ]
  go_wp2_with fail
  refine (num_Reader_Fix.calls g leastL 4 0 0 1 1 5 0 0 w0 wa HIa.out HBa.out lf4).mono ?_
  rintro e wb ⟨rfl, h1, h2, h3⟩
  have HIb := Aside0.mk h1
  have HBb := Aside0.mk h2
  have HKb := Aside0.mk (keep_then HKa.out h3)
  clear h1 h2 h3
  go_wp2_with fail
  refine (num_Reader_Fix.calls g leastL 5 0 0 1 0 6 0 0 w0 wb HIb.out HBb.out lf5).mono ?_
  rintro e wc ⟨rfl, h1, h2, h3⟩
  have HIc := Aside0.mk h1
  have HBc := Aside0.mk h2
  have HKc := Aside0.mk (keep_then HKb.out h3)
  clear h1 h2 h3
  go_wp2_with fail
  refine (num_Reader_Fix.calls g leastL 6 0 0 1 0 7 0 0 w0 wc HIc.out HBc.out lf6).mono ?_
  rintro e wd ⟨rfl, h1, h2, h3⟩
  have HId := Aside0.mk h1
  have HBd := Aside0.mk h2
  have HKd := Aside0.mk (keep_then HKc.out h3)
  clear h1 h2 h3
  go_wp2_with fail
  refine (rd_good g leastL 7 w0 wd (HG.out.of_below HBd.out) HId.out).mono ?_
  rintro e we ⟨rfl, h1⟩
  have HIe := Aside0.mk (HId.out.below h1)
  have HBe := Aside0.mk (below_then HBd.out HBd.out.size h1)
  have HKe := Aside0.mk (KeepBut.below_ HKd.out h1)
  clear h1
  go_wp2_with ((with_reducible refine gate_builtin (b := .append) (xs := #[.tmp 27, .tmp 36]) rfl ?_); at_builtin; refine Kd.R_append k123 (w0 := we) we.heap.size rfl (.tmp 27) (.tmp 36) 22 123 (.agg #[.int .i64 0, .bool false, .int .i64 0]) 24 rfl Tryz.underlying22 (by kernel_rfl) rfl (by decide) (by decide) (.slice none 0 0) [] (⟨1, false, -1⟩ : S123) [.int .i64 1, .bool false, .int .i64 (-1)] (fun _ => True) (fun _ => False) rfl rfl (k123_mkM _ _ _ _) (fun _ h => h.elim) (fun _ _ => trivial) (Kd.R_nil _ _ _ _ _) (Below.refl _ _) (Nat.le_refl _) (by decide) ?_; intro vf wf ho hb _ _; have HO := Aside0.mk ho; have HBf := Aside0.mk hb; clear ho hb)
  obtain ⟨sb, cap, rfl, _⟩ := Kd.R_form HO.out (by simp)
  have hrd := Kd.R_reads' HO.out
  have HCA := Aside0.mk hrd.2.1
  have HCC := Aside0.mk hrd.2.2
  have HSB := Aside0.mk (Kd.R_base HO.out sb rfl)
  have HSL := Aside0.mk (Kd.R_lt HO.out sb rfl)
  have HIf := Aside0.mk (HIe.out.below HBf.out)
  have HBf2 := Aside0.mk (below_then HBe.out HBe.out.size HBf.out)
  have HKf := Aside0.mk (KeepBut.below_ HKe.out HBf.out)
  clear hrd
  rw [rounds_succ]
  go_wp2_with fail
  refine (rd_good g leastL 7 w0 wf (HG.out.of_below HBf2.out) HIf.out).mono ?_
  rintro e wg ⟨rfl, h1⟩
  have HIg := Aside0.mk (HIf.out.below h1)
  have HBg := Aside0.mk (below_then HBf2.out HBf2.out.size h1)
  have HKg := Aside0.mk (KeepBut.below_ HKf.out h1)
  have HCg := Aside0.mk (Kd.C_below HCC.out h1)
  have HSg := Aside0.mk (Nat.lt_of_lt_of_le HSL.out h1.size)
  clear h1
  go_wp2_with fail
  refine (value_Schema.calls 5 (some ⟨sb, 0, none⟩) cap [⟨1, false, -1⟩] 0 wg HCg.out HCA.out (by kernel_rfl)).mono ?_
  rintro e wh ⟨rfl, h1⟩
  have HIh := Aside0.mk (HIg.out.below h1)
  have HBh := Aside0.mk (below_then HBg.out HBg.out.size h1)
  have HKh := Aside0.mk (KeepBut.below_ HKg.out h1)
  have HCh := Aside0.mk (Kd.C_below HCg.out h1)
  have HSh := Aside0.mk (Nat.lt_of_lt_of_le HSg.out h1.size)
  clear h1
  go_wp2_with fail
  refine (rd_fail_no g leastL _ _ _ 0 w0 _ HIh.out (.inr rfl)).mono ?_
  rintro e w' ⟨rfl, rfl⟩
  go_wp2_with fail
  refine (rd_good g leastL 7 w0 wh (HG.out.of_below HBh.out) HIh.out).mono ?_
  rintro e wi ⟨rfl, h1⟩
  have HIi := Aside0.mk (HIh.out.below h1)
  have HBi := Aside0.mk (below_then HBh.out HBh.out.size h1)
  have HKi := Aside0.mk (KeepBut.below_ HKh.out h1)
  have HCi := Aside0.mk (Kd.C_below HCh.out h1)
  have HSi := Aside0.mk (Nat.lt_of_lt_of_le HSh.out h1.size)
  clear h1
  go_wp2
  go_ret
  have z := HSB.out
  have z2 := HKe.out.1
  exact ⟨sb, cap, rfl, HCA.out, HCi.out, by omega, HSi.out, HIi.out, HBi.out, HKi.out⟩
theorem lv7 : num_short.f 3 (leastL.drop (7 : Int).toNat) = some (0, 1, 0) := by decide +kernel
theorem lv8 : num_short.f 3 (leastL.drop (8 : Int).toNat) = some (0, 1, 0) := by decide +kernel
set_option maxHeartbeats 4000000 in
set_option maxRecDepth 100000 in
theorem rd_takeRows (s c : Nat) (g : Nat) (w0 w : World) (hG : ErrT w0) (hI : RD w0 w g leastL 8 0 0) (hB : Below w0.heap.size w0 w) :
    Calls Tryz.prog 94 #[.pointer (some ⟨g, 0, none⟩), .slice (some ⟨s, 0, none⟩) 1 c] w fun e w' => e = .returned (.slice none 0 0) ∧ RD w0 w' g leastL 9 0 0 ∧ Below w0.heap.size w0 w' ∧ KeepBut w w' g none := by
  have HG := Aside0.mk hG
  have HI := Aside0.mk hI
  have HB := Aside0.mk hB
  clear hG hI hB
  go_enter Tryz.func94, Tryz.ntmps94
  go_wp2_with fail
  refine (rd_var 3 g leastL 8 0 1 w0 w HI.out HB.out (by decide) (by decide) (by decide +kernel) lv8).mono ?_
  rintro e wa ⟨rfl, h1, h2, h3⟩
  have HIa := Aside0.mk h1
  have HBa := Aside0.mk h2
  have HKa := Aside0.mk h3
  clear h1 h2 h3
  go_wp2_with fail
  refine (rd_good g leastL 9 w0 wa (HG.out.of_below HBa.out) HIa.out).mono ?_
  rintro e wi ⟨rfl, h1⟩
  have HIi := Aside0.mk (HIa.out.below h1)
  have HBi := Aside0.mk (below_then HBa.out HBa.out.size h1)
  have HKi := Aside0.mk (KeepBut.below_ HKa.out h1)
  clear h1
  go_wp2
  go_rounds 1
  go_ret
  exact ⟨rfl, HIi.out, HBi.out, HKi.out⟩

end Go.Proofs.YtjmhiklmlgbifaaGreatDoor.PMan
end

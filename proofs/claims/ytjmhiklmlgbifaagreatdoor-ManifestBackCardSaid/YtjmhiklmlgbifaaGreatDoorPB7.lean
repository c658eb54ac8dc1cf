/- Texts of this proof, put into one, without what it does not use: MpF, ManA. -/
import Derived.Test.YtjmhiklmlgbifaaGreatDoorPB6
import Derived.Test.YtjmhiklmlgbifaaGreatDoorPB4
import Derived.Outline
import Derived.Handy
import Derived.Laws.Rows
import Derived.Deep.WholeRow
import Derived.Deep.MidRow
section
namespace Go.Proofs.YtjmhiklmlgbifaaGreatDoor.PMan
open Go.RowKit Go.Proofs.YtjmhiklmlgbifaaGreatDoorW.PrintWords Go.Proofs.YtjmhiklmlgbifaaGreatDoorW.PrintLast Go.Proofs.YtjmhiklmlgbifaaGreatDoorW.PrintMore
set_option linter.unusedVariables false
set_option linter.unusedSimpArgs false
/-- Part of a block's cells, as a range. -/
theorem range_of {w : World} {b : Nat} {pre cs post : List Value} {t : TypeId} (h : w.heap[b]? = some (.cells (pre ++ (cs ++ post)).toArray t (0, 0))) (n : Nat) (hn : n = pre.length) : w.rangeAt b n cs := by
  intro j v hj
  subst hn
  have hl := (List.getElem?_eq_some_iff.1 hj).1
  rw [blk_cell h (pre.length + j), List.getElem?_toArray, List.getElem?_append_right (by omega), Nat.add_sub_cancel_left, List.getElem?_append_left hl, hj]
abbrev mnCells (m : Mn) (As : Option Addr) (cs : Nat) (Ag : Option Addr) (cg : Nat) (Al : Option Addr) (cl : Nat) (Ae : Option Addr) (ce : Nat) : Array Value := #[.int .i64 m.gen, .int .i64 m.next, .slice As m.schema.length cs, .int .i64 m.most, .slice Ag m.groups.length cg, .slice Al m.loose.length cl, .slice Ae m.entries.length ce]
/-- What a manifest leads to. -/
structure MnC (w : World) (m : Mn) (As : Option Addr) (cs : Nat) (Ag : Option Addr) (cg : Nat) (Al : Option Addr) (cl : Nat) (Ae : Option Addr) (ce : Nat) : Prop where
  s : Kd.C k123 w As m.schema.length m.schema
  hs : m.schema.length ≤ cs
  g : Kd.C kRf w Ag m.groups.length m.groups
  hg : m.groups.length ≤ cg
  l : Kd.C (Kd.slice 68 k68) w Al m.loose.length m.loose
  hl : m.loose.length ≤ cl
  e : Kd.C kEn w Ae m.entries.length m.entries
  he : m.entries.length ≤ ce
theorem MnC.below {w w1 : World} {m : Mn} {As Ag Al Ae : Option Addr} {cs cg cl ce : Nat} (h : MnC w m As cs Ag cg Al cl Ae ce) (hb : Below w.heap.size w w1) : MnC w1 m As cs Ag cg Al cl Ae ce :=
  ⟨Kd.C_below h.s hb, h.hs, Kd.C_below h.g hb, h.hg, Kd.C_below h.l hb, h.hl, Kd.C_below h.e hb, h.he⟩
theorem rf_all (x : Rf) (A : Option Addr) (c : Nat) (B : Option Addr) (d : Nat) : ((rfCells x A c B d).toArray).all (·.oneCell') = true := by
  simp [rfCells, hdCells, hashCells, Value.oneCell']
theorem hd_len (x : Hd) (A : Option Addr) (c : Nat) (h : x.dead.length = 32) : (hdCells x A c).length = 35 := by
  simp [hdCells, hashCells, h]
theorem rf_36 (x : Rf) (A : Option Addr) (c : Nat) (B : Option Addr) (d : Nat) (h : x.hd.dead.length = 32) : (rfCells x A c B d).toArray[36]? = some (.slice B x.dead.length d) := by
  rw [List.getElem?_toArray]
  unfold rfCells
  rw [List.getElem?_cons_succ, List.getElem?_append_right (by rw [hd_len _ _ _ h]; omega), hd_len _ _ _ h]
  rfl
def zHd : Hd := ⟨0, 0, [], []⟩
def zRf : Rf := ⟨0, zHd, []⟩
theorem groupsL_at (next most : Int) (s : List S123) (l : List Rf) (j : Nat) (h : j < l.length) :
    groupsL next most s (l.drop j) = if 0 ≤ (l.getD j zRf).id ∧ (l.getD j zRf).id ≤ next - 1 then (if soundP (l.getD j zRf).hd s = true ∧ (l.getD j zRf).hd.rows ≤ most ∧ ((l.getD j zRf).dead.length : Int) ≤ 65536 then groupsL next most s (l.drop (j + 1)) else 4) else 5 := by
  rw [drop_cons l j zRf h, groupsL]
theorem within_calls (a b c : Int) (w : World) : Calls Tryz.prog 44 #[.int .i64 a, .int .i64 b, .int .i64 c] w fun e w' => e = .returned (.bool (decide (b ≤ a) && decide (a ≤ c))) ∧ Drawn0 w w' := by
  refine manifest_within.calls a b c _ w ?_
  unfold manifest_within.f
  by_cases h : a ≥ b
  · rw [if_pos h]
    simp [show b ≤ a from h]
  · rw [if_neg h]
    simp [show ¬ b ≤ a from h]
set_option maxHeartbeats 3200000 in
set_option maxRecDepth 100000 in
theorem groups_calls (m : Mn) (As : Option Addr) (cs : Nat) (Ag : Option Addr) (cg : Nat) (Al : Option Addr) (cl : Nat) (Ae : Option Addr) (ce : Nat) (w : World) (hm : MnC w m As cs Ag cg Al cl Ae ce) (hn0 : 0 ≤ m.next) (hn1 : m.next ≤ 1099511627776) :
    Calls Tryz.prog 45 #[.agg (mnCells m As cs Ag cg Al cl Ae ce)] w fun e w' => e = .returned (.int .i64 (groupsP m)) ∧ Below w.heap.size w w' := by
  have HM := Aside0.mk hm
  have hb : m.groups.length ≤ 9223372036854775807 := hm.g.2.1
  clear hm
  unfold mnCells
  by_cases g1 : (m.groups.length : Int) > 1048576
  · go_enter Tryz.func45, Tryz.ntmps45
    go_wp2
    go_ret
    exact ⟨by unfold groupsP; rw [if_pos (by omega)]; rfl, below_alloc (Below.refl _ _) _⟩
  have hP : groupsP m = groupsL m.next m.most m.schema m.groups := by unfold groupsP; rw [if_neg g1]
  rw [hP]
  go_enter Tryz.func45, Tryz.ntmps45
  go_wp2
  go_loopw [12] (fun v12 w' => ∃ j : Nat, j ≤ m.groups.length ∧ v12 = .int .i64 j ∧ Aside0 (groupsL m.next m.most m.schema (m.groups.drop j) = groupsL m.next m.most m.schema m.groups) ∧ Aside0 (Below w.heap.size w w') ∧ Aside0 (w'.heap[w.heap.size]? = some (.cells #[.int .i64 m.gen, .int .i64 m.next, .slice As m.schema.length cs, .int .i64 m.most, .slice Ag m.groups.length cg, .slice Al m.loose.length cl, .slice Ae m.entries.length ce] 27 (0, 0)))) (fun i _ => m.groups.length - (intOf i).toNat)
  case atStart => exact ⟨0, Nat.zero_le _, rfl, ⟨rfl⟩, ⟨below_alloc (Below.refl _ _) _⟩, ⟨heap_alloc_new w _⟩⟩
  case round =>
    obtain ⟨j, hj, rfl, HX, HB, HH⟩ := hrel
    by_cases hlt : j < m.groups.length
    · obtain ⟨b, o, ks, e1, hK, hcl, hmm⟩ := C_mid (Kd.C_below HM.out.g HB.out) zRf j hlt (by decide)
      cases e1
      have hs := groupsL_at m.next m.most m.schema m.groups j hlt
      rw [HX.out] at hs
      generalize m.groups.getD j zRf = x at *
      obtain ⟨A, c, B, d, rfl, h32, hc, hC, hd, hD⟩ := kRf_open hK
      rw [kRf_sz] at hmm hcl
      have HS := Aside0.mk hs
      have HCL := Aside0.mk hcl
      have HMM := Aside0.mk hmm
      have HC := Aside0.mk hC
      have H32 := Aside0.mk h32
      have HCC := Aside0.mk hc
      have HSZ := Aside0.mk (show ((rfCells x A c B d).toArray).size = 37 from by rw [List.size_toArray]; exact hcl)
      clear hs hK hcl hmm hC h32 hc hD hd
      go_wp2_with (first | (refine wpList_load_mid rfl 66 (.tmp 14) rfl b (o + j * 37) rfl (rfCells x A c B d) _ HMM.out Tryz.underlying66 rfl (by rw [HCL.out]; kernel_rfl) ?_) | (refine wpList_store_row rfl 66 (.tmp 4) (.tmp 15) rfl wr.heap.size ((rfCells x A c B d).toArray) rfl rfl 66 _ (heap_alloc_new wr _) (by rw [HSZ.out]; kernel_rfl) (by rw [HSZ.out]; rfl) (rf_all _ _ _ _ _) ?_; rw [World.setRow_alloc_new]; (have hx := heap_alloc_new wr (.cells (rfCells x A c B d).toArray 66)); (have hbr : Below wr.heap.size wr (wr.alloc (.cells (rfCells x A c B d).toArray 66)) := below_alloc (Below.refl _ _) _); (have HBW := Aside0.mk (below_call HB.out hbr)); (have HH2 := Aside0.mk ((hbr.block _ (blk_lt HH.out)).trans HH.out)); (have HC2 := Aside0.mk (Kd.C_below (Kd.C_below HC.out (Below.refl _ _)) hbr)); generalize (wr.alloc (.cells (rfCells x A c B d).toArray 66)) = W2 at *; (have p0 : W2.cell? ⟨wr.heap.size, 0, none⟩ = some (.int .i64 x.id) := (blk_cell hx 0).trans rfl); (have p1 : W2.cell? ⟨wr.heap.size, 1, none⟩ = some (.int .i64 x.hd.rows) := (blk_cell hx 1).trans rfl); (have q1 : W2.cell? ⟨w.heap.size, 1, none⟩ = some (.int .i64 m.next) := blk_cell HH2.out 1)))
      have hin : ∃ q : Bool, (decide (0 ≤ x.id) && decide (x.id ≤ m.next - 1)) = q ∧ (q = true ↔ (0 ≤ x.id ∧ x.id ≤ m.next - 1)) := ⟨_, rfl, by simp⟩
      obtain ⟨q, hq, hqi⟩ := hin
      refine (within_calls x.id 0 (m.next - 1) W2).mono ?_
      rintro e w3 ⟨rfl, ⟨nd, rfl⟩⟩
      have hb3 : Below W2.heap.size W2 (W2.drewN nd) := pw_below_drewN (Below.refl _ _) nd
      have HB3 := Aside0.mk (below_call HBW.out hb3)
      have HH3 := Aside0.mk ((hb3.block _ (blk_lt HH2.out)).trans HH2.out)
      have hx3 := (hb3.block _ (blk_lt hx)).trans hx
      have HC3 := Aside0.mk (Kd.C_below HC2.out hb3)
      generalize W2.drewN nd = W3 at *
      clear hbr hb3 p0 p1 q1 hx HC2 HH2 HBW
      rw [hq]
      cases q with
      | false =>
        have hE := HS.out
        rw [if_neg (fun h => by have := hqi.2 h; cases this)] at hE
        have HE := Aside0.mk hE
        clear hE hqi hq
        go_wp2
        go_ret
        exact ⟨by rw [← HE.out]; rfl, HB3.out⟩
      | true =>
        have hE := HS.out
        rw [if_pos (hqi.1 rfl)] at hE
        have HE := Aside0.mk hE
        clear hE hqi hq
        have HR3 := Aside0.mk (range_of (pre := [.int .i64 x.id]) (cs := hdCells x.hd A c) (post := [.slice B x.dead.length d]) hx3 1 rfl)
        have p1 : W3.cell? ⟨wr.heap.size, 1, none⟩ = some (.int .i64 x.hd.rows) := (blk_cell hx3 1).trans rfl
        have p36 : W3.cell? ⟨wr.heap.size, 36, none⟩ = some (.slice B x.dead.length d) := (blk_cell hx3 36).trans (rf_36 x A c B d H32.out)
        have q2 : W3.cell? ⟨w.heap.size, 2, none⟩ = some (.slice As m.schema.length cs) := blk_cell HH3.out 2
        have HX3 := Aside0.mk hx3
        clear hx3
        have HDL := Aside0.mk (hd_len x.hd A c H32.out)
        go_wp2_with (refine wpList_load_mid rfl 64 (.tmp 25) rfl wr.heap.size 1 rfl (hdCells x.hd A c) _ HR3.out Tryz.underlying64 rfl (by rw [HDL.out]; kernel_rfl) ?_)
        refine (sound_calls x.hd A c As cs m.schema W3 H32.out HCC.out HC3.out (Kd.C_below HM.out.s HB3.out) HM.out.hs).mono ?_
        rintro e w4 ⟨rfl, hb4⟩
        have HB4 := Aside0.mk (below_call HB3.out hb4)
        have HH4 := Aside0.mk ((hb4.block _ (blk_lt HH3.out)).trans HH3.out)
        have hx4 := (hb4.block _ (blk_lt HX3.out)).trans HX3.out
        clear p1 p36 q2 hb4
        have p1 : w4.cell? ⟨wr.heap.size, 1, none⟩ = some (.int .i64 x.hd.rows) := (blk_cell hx4 1).trans rfl
        have p36 : w4.cell? ⟨wr.heap.size, 36, none⟩ = some (.slice B x.dead.length d) := (blk_cell hx4 36).trans (rf_36 x A c B d H32.out)
        have q3 : w4.cell? ⟨w.heap.size, 3, none⟩ = some (.int .i64 m.most) := blk_cell HH4.out 3
        clear hx4
        have hE := HE.out
        cases hso : soundP x.hd m.schema with
        | false =>
          rw [hso, if_neg (by simp)] at hE
          have HE := Aside0.mk hE
          clear hE
          go_wp2
          go_ret
          exact ⟨by rw [← HE.out]; rfl, HB4.out⟩
        | true =>
          rw [hso] at hE
          by_cases hro : x.hd.rows > m.most
          · rw [if_neg (by omega)] at hE
            have HE := Aside0.mk hE
            clear hE
            go_wp2
            go_ret
            exact ⟨by rw [← HE.out]; rfl, HB4.out⟩
          · by_cases hde : (x.dead.length : Int) > 65536
            · rw [if_neg (by omega)] at hE
              have HE := Aside0.mk hE
              clear hE
              go_wp2
              go_ret
              exact ⟨by rw [← HE.out]; rfl, HB4.out⟩
            · rw [if_pos ⟨rfl, by omega, by omega⟩] at hE
              have HE := Aside0.mk hE
              clear hE
              go_wp2
              go_roundw
              case rel => exact ⟨j + 1, by omega, by go_num, ⟨HE.out.symm⟩, HB4, HH4⟩
              case measure => simp [intOf]; omega
    · obtain rfl : j = m.groups.length := by omega
      go_wp2
      go_ret
      exact ⟨by rw [← HX.out, List.drop_eq_nil_of_le (Nat.le_refl _)]; rfl, HB.out⟩
end Go.Proofs.YtjmhiklmlgbifaaGreatDoor.PMan
end
section
namespace Go.Proofs.YtjmhiklmlgbifaaGreatDoor.PMan
open Go.RowKit Go.Proofs.YtjmhiklmlgbifaaGreatDoorW.PrintWords Go.Proofs.YtjmhiklmlgbifaaGreatDoorW.PrintLast Go.Proofs.YtjmhiklmlgbifaaGreatDoorW.PrintMore
attribute [local go_sem] max2_int min2_int max_two min_two max_three min_three max_four min_four   -- for this text's walks alone
set_option linter.unusedVariables false
set_option linter.unusedSimpArgs false
theorem ents32 : Tryz.zeroCells81[32]? = some (.int .i64 0) := by kernel_rfl
theorem ents_size : Tryz.zeroCells81.size = 65 := by kernel_rfl
/-- The row of noughts lies at block e. -/
def EntC (W : World) (e : Nat) : Prop := W.rangeAt e 0 Tryz.zeroCells81.toList
theorem EntC.below {W W1 : World} {e : Nat} (h : EntC W e) (hb : Below W.heap.size W W1) : EntC W1 e := fun i x hx => pw_cell_below hb (h i x hx)
theorem EntC.of {W : World} {e : Nat} {t : TypeId} (h : W.heap[e]? = some (.cells Tryz.zeroCells81 t (0, 0))) : EntC W e := fun i x hx => by
  rw [Nat.zero_add, blk_cell h i]
  simpa using hx
/-- The least manifest, as a value. -/
abbrev ManV (s cs e ce : Nat) : Value := .agg #[.int .i64 0, .int .i64 0, .slice (some ⟨s, 0, none⟩) 1 cs, .int .i64 1, .slice none 0 0, .slice none 0 0, .slice (some ⟨e, 0, none⟩) 1 ce]
/-- What the least manifest leads to, at a world. -/
def ManP (W : World) (s cs e ce : Nat) : Prop := 1 ≤ cs ∧ 1 ≤ ce ∧ Kd.C k123 W (some ⟨s, 0, none⟩) 1 [⟨1, false, -1⟩] ∧ EntC W e
theorem ManP.below {W W1 : World} {s cs e ce : Nat} (h : ManP W s cs e ce) (hb : Below W.heap.size W W1) : ManP W1 s cs e ce := ⟨h.1, h.2.1, Kd.C_below h.2.2.1 hb, h.2.2.2.below hb⟩
set_option maxHeartbeats 1600000 in
set_option maxRecDepth 100000 in
theorem led_right (c : Array Value) (h32 : c[32]? = some (.int .i64 0)) (w : World) : Calls Tryz.prog 81 #[.agg c] w fun e w' => e = .returned (.bool true) ∧ Below w.heap.size w w' := by
  go_enter Tryz.func81, Tryz.ntmps81
  go_wp2
  go_ret
  exact ⟨rfl, below_alloc (Below.refl _ _) _⟩
set_option maxHeartbeats 1600000 in
set_option maxRecDepth 100000 in
theorem led_new (w : World) : Calls Tryz.prog 47 #[] w fun e w' => ∃ g, e = .returned (.pointer (some ⟨g, 0, none⟩)) ∧ w'.heap[g]? = some (.cells #[.slice none 0 0] 137 (0, 0)) ∧ w.heap.size ≤ g ∧ Below w.heap.size w w' := by
  go_enter Tryz.func47, Tryz.ntmps47
  go_wp2
  go_ret
  exact ⟨_, rfl, heap_alloc_new w _, Nat.le_refl _, below_alloc (Below.refl _ _) _⟩
theorem k_col (w : World) (s : Nat) (h0 : w.cell? ⟨s, 0, none⟩ = some (.int .i64 1)) (h1 : w.cell? ⟨s, 1, none⟩ = some (.bool false)) (h2 : w.cell? ⟨s, 2, none⟩ = some (.int .i64 (-1))) : Kd.C k123 w (some ⟨s, 0, none⟩) 1 [⟨1, false, -1⟩] := by
  refine ⟨rfl, by decide, fun _ => ⟨⟨s, 0, none⟩, rfl, fun j p hj => ?_⟩⟩
  match j, hj with
  | 0, hj =>
    obtain rfl : (⟨1, false, -1⟩ : S123) = p := by simpa using hj
    refine ⟨_, rfl, k123_mk w _, fun i u hu => ?_⟩
    match i, hu with
    | 0, hu => obtain rfl : Value.int .i64 1 = u := by simpa using hu
               exact h0
    | 1, hu => obtain rfl : Value.bool false = u := by simpa using hu
               exact h1
    | 2, hu => obtain rfl : Value.int .i64 (-1) = u := by simpa using hu
               exact h2
    | i + 3, hu => simp at hu
  | j + 1, hj => simp at hj
set_option maxHeartbeats 1600000 in
set_option maxRecDepth 100000 in
theorem m_least (w : World) : Calls Tryz.prog 28 #[] w fun v w' => ∃ s e, v = .returned (ManV s 1 e 1) ∧ ManP w' s 1 e 1 ∧ Below w.heap.size w w' := by
  go_enter Tryz.func28, Tryz.ntmps28
  go_wp2
  rw [show (Array.foldl (fun cs (x : Value × Nat) => cs.setIfInBounds x.snd x.fst) _ (Tryz.zeroCells81.zipIdx) 0 65) = Tryz.zeroCells81 from by kernel_rfl]
  generalize hw1 : w.alloc _ = W1
  generalize hw2 : W1.alloc _ = W2
  generalize hw3 : W2.alloc _ = W3
  have b1 : Below w.heap.size w W1 := hw1 ▸ below_alloc (Below.refl _ _) _
  have s1 : W1.heap.size = w.heap.size + 1 := by rw [← hw1]; simp
  have b2 : Below W1.heap.size W1 W2 := hw2 ▸ below_alloc (Below.refl _ _) _
  have s2 : W2.heap.size = w.heap.size + 1 + 1 := by rw [← hw2, ← s1]; simp
  have b3 : Below W2.heap.size W2 W3 := hw3 ▸ below_alloc (Below.refl _ _) _
  have x2 : W2.heap[w.heap.size + 1]? = some (.cells #[.int .i64 1, .bool false, .int .i64 (-1)] 123 (0, 0)) := by rw [← hw2, ← s1]; exact heap_alloc_new W1 _
  have x3 : W3.heap[w.heap.size + 1 + 1]? = some (.cells Tryz.zeroCells81 81 (0, 0)) := by rw [← hw3, ← s2]; exact heap_alloc_new W2 _
  have x1 : W1.heap[w.heap.size]? = some (.cells #[.int .i64 0, .int .i64 0, .slice (some ⟨w.heap.size + 1, 0, none⟩) 1 1, .int .i64 1, .slice none 0 0, .slice none 0 0, .slice (some ⟨w.heap.size + 1 + 1, 0, none⟩) 1 1] 27 (0, 0)) := by rw [← hw1]; exact heap_alloc_new w _
  have y1 := (b3.block _ (by rw [s2]; omega)).trans ((b2.block _ (by rw [s1]; omega)).trans x1)
  have y2 := (b3.block _ (by rw [s2]; omega)).trans x2
  refine bodyPost_ret (v := ManV (w.heap.size + 1) 1 (w.heap.size + 1 + 1) 1) (results_cell_row rfl _ _ w.heap.size 27 #[.int .i64 0, .int .i64 0, .slice (some ⟨w.heap.size + 1, 0, none⟩) 1 1, .int .i64 1, .slice none 0 0, .slice none 0 0, .slice (some ⟨w.heap.size + 1 + 1, 0, none⟩) 1 1] (0, 0) _ rfl y1 Tryz.underlying27 rfl (by kernel_rfl)) rfl ?_
  have c0 := blk_cell y2 0
  have c1 := blk_cell y2 1
  have c2 := blk_cell y2 2
  simp only [List.getElem?_toArray] at c0 c1 c2
  exact ⟨_, _, rfl, ⟨Nat.le_refl _, Nat.le_refl _, k_col _ _ c0 c1 c2, EntC.of x3⟩, b1.trans ((b2.mono b1.size).trans (b3.mono (Nat.le_trans b1.size b2.size)))⟩
set_option maxHeartbeats 1600000 in
set_option maxRecDepth 100000 in
theorem m_groups (s cs e ce : Nat) (w : World) : Calls Tryz.prog 45 #[ManV s cs e ce] w fun ev w' => ev = .returned (.int .i64 0) ∧ Below w.heap.size w w' := by
  unfold ManV
  go_enter Tryz.func45, Tryz.ntmps45
  go_wp2
  go_rounds 1
  go_ret
  exact ⟨rfl, below_alloc (Below.refl _ _) _⟩
theorem ent_at (c : Array Value) (s r : List Int) (g : Int) (hc : c = (s.map (Value.int .u8) ++ Value.int .i64 g :: r.map (Value.int .u8)).toArray) (hs : s.length = 32) : c[32]? = some (.int .i64 g) := by
  subst hc
  rw [List.getElem?_toArray, List.getElem?_append_right (by rw [List.length_map]; omega), List.length_map, hs]
  rfl
theorem ent_C1 (c : Array Value) (s r : List Int) (g : Int) (hc : c = (s.map (Value.int .u8) ++ Value.int .i64 g :: r.map (Value.int .u8)).toArray) (hs : s.length = 32) (W : World) (b : Nat) (t : TypeId) (hb : W.heap[b]? = some (.cells c t (0, 0))) : Kd.C (Kd.int .u8) W (some ⟨b, 0, none⟩) s.length s := by
  refine ⟨rfl, by omega, fun _ => ⟨⟨b, 0, none⟩, rfl, fun j p hj => ⟨[.int .u8 p], rfl, rfl, fun i u hu => ?_⟩⟩⟩
  match i, hu with
  | i + 1, hu => simp at hu
  | 0, hu =>
    obtain rfl : Value.int .u8 p = u := by simpa using hu
    have hl := (List.getElem?_eq_some_iff.1 hj).1
    have hadd : (⟨b, 0, none⟩ : Addr).add (j * (Kd.int IntKind.u8).sz + 0) = ⟨b, j, none⟩ := by
      show (⟨b, 0, none⟩ : Addr).add (j * 1 + 0) = _
      unfold Addr.add; split <;> simp_all
    rw [hadd, blk_cell hb j, hc, List.getElem?_toArray, List.getElem?_append_left (by rw [List.length_map]; exact hl), List.getElem?_map, hj]
    rfl
theorem ent_C2 (c : Array Value) (s r : List Int) (g : Int) (hc : c = (s.map (Value.int .u8) ++ Value.int .i64 g :: r.map (Value.int .u8)).toArray) (hs : s.length = 32) (hr : r.length = 32) (W : World) (b : Nat) (t : TypeId) (hb : W.heap[b]? = some (.cells c t (0, 0))) : Kd.C (Kd.int .u8) W (some ⟨b, 33, none⟩) r.length r := by
  refine ⟨rfl, by omega, fun _ => ⟨⟨b, 33, none⟩, rfl, fun j p hj => ⟨[.int .u8 p], rfl, rfl, fun i u hu => ?_⟩⟩⟩
  match i, hu with
  | i + 1, hu => simp at hu
  | 0, hu =>
    obtain rfl : Value.int .u8 p = u := by simpa using hu
    have hadd : (⟨b, 33, none⟩ : Addr).add (j * (Kd.int IntKind.u8).sz + 0) = ⟨b, 33 + j, none⟩ := by
      show (⟨b, 33, none⟩ : Addr).add (j * 1 + 0) = _
      unfold Addr.add; split <;> simp_all
    rw [hadd, blk_cell hb (33 + j), hc, List.getElem?_toArray, List.getElem?_append_right (by rw [List.length_map]; omega), List.length_map, hs, show 33 + j - 32 = j + 1 from by omega, List.getElem?_cons_succ, List.getElem?_map, hj]
    rfl
theorem led_clone (c : Array Value) (s r : List Int) (g : Int) (hc : c = (s.map (Value.int .u8) ++ Value.int .i64 g :: r.map (Value.int .u8)).toArray) (hs : s.length = 32) (hr : r.length = 32) (W : World) (b : Nat) (hb : W.heap[b]? = some (.cells c 81 (0, 0))) :
    Calls Tryz.prog 70 #[.slice (some ⟨b, 0, none⟩) 32 32] W fun e w' => ∃ v : Value, e = .returned v ∧ Kd.R (Kd.int .u8) 5 w' W.heap.size (fun _ => True) v s ∧ Below W.heap.size W w' := by
  have := bytes_Clone.calls (some ⟨b, 0, none⟩) 32 s s W (ent_C1 c s r g hc hs W b _ hb) (by omega) (by unfold bytes_Clone.f; rw [if_pos (by omega)])
  rw [hs] at this
  exact this
set_option maxHeartbeats 1600000 in
set_option maxRecDepth 100000 in
theorem led_put (k : Nat) (c : Array Value) (s r : List Int) (g : Int) (t : List Int) (hc : c = (s.map (Value.int .u8) ++ Value.int .i64 g :: r.map (Value.int .u8)).toArray) (hs : s.length = 32) (hr : r.length = 32) (hput : num_PutVar.f k s (IntKind.u64.wrap g) = some t) (ht : t.length + 32 < 140737488355328) (w : World) :
    Calls Tryz.prog 34 #[.agg c] w fun e w' => ∃ v : Value, e = .returned v ∧ Kd.R (Kd.int .u8) 5 w' w.heap.size (fun _ => True) v (t ++ r) ∧ Below w.heap.size w w' := by
  have h32 := ent_at c s r g hc hs
  have HCC := Aside0.mk hc
  have HSS := Aside0.mk hs
  have HRR := Aside0.mk hr
  have HPUT := Aside0.mk hput
  have HT := Aside0.mk ht
  clear hc hs hr hput ht
  obtain ⟨y, hy⟩ : ∃ y, y = t ++ r := ⟨_, rfl⟩
  have HY := Aside0.mk hy
  rw [← hy]
  clear hy
  go_enter Tryz.func34, Tryz.ntmps34
  go_wp2_with fail
  have hbk : (w.alloc (.cells c 81)).drew.heap[w.heap.size]? = some (.cells c 81 (0, 0)) := heap_alloc_new w _
  have hbw : Below w.heap.size w (w.alloc (.cells c 81)).drew := below_drew (below_alloc (Below.refl _ _) _)
  have hc0 : (w.alloc (.cells c 81)).drew.cell? ⟨w.heap.size, 32, none⟩ = some (.int .i64 g) := (blk_cell hbk 32).trans h32
  have HBK := Aside0.mk hbk
  have HBW := Aside0.mk hbw
  have HC0 := Aside0.mk hc0
  clear hbk hbw h32
  refine start_ (n := 8) (S := fun w' => w'.cell? ⟨w.heap.size, 32, none⟩ = some (.int .i64 g)) (ds := []) #[false, false, false, false, false, false, false, false] (by kernel_rfl) rfl rfl (hc0) (fun hHeld => ?_)
  generalize (w.alloc (.cells c 81)).drew = W2 at *
  refine pure_ (i := 0) (N := some 4) (v := ?_) (a' := ?_) #[true, false, false, false, false, false, false, false] rfl rfl (by kernel_rfl) (fun _ _ _ h => h) (Or.inl ⟨by rfl, ?_⟩) ?_ ?_
  rotate_left
  · intro w'
    go_simp
    with_reducible rfl
  rotate_left
  · simp only [Act.put, List.setIfInBounds_toArray, List.set_cons_zero, List.set_cons_succ, i64_w, i32_w]
    rfl
  refine pure_ (i := 1) (N := some 5) (v := ?_) (a' := ?_) #[true, true, false, false, false, false, false, false] rfl rfl (by kernel_rfl) (fun _ _ _ h => h) (Or.inl ⟨by rfl, ?_⟩) ?_ ?_
  rotate_left
  · intro w'
    go_simp
    with_reducible rfl
  rotate_left
  · simp only [Act.put, List.setIfInBounds_toArray, List.set_cons_zero, List.set_cons_succ, i64_w, i32_w]
    rfl
  refine pure_ (i := 3) (N := some 7) (v := ?_) (a' := ?_) #[true, true, false, true, false, false, false, false] rfl rfl (by kernel_rfl) (fun _ _ _ h => h) (Or.inl ⟨by rfl, ?_⟩) ?_ ?_
  rotate_left
  · intro w'
    go_simp
    with_reducible rfl
  rotate_left
  · simp only [Act.put, List.setIfInBounds_toArray, List.set_cons_zero, List.set_cons_succ, i64_w, i32_w]
    rfl
  refine take_ (i := 4) (N := some 8) (v := ?_) (a' := ?_) #[true, true, false, true, true, false, false, false] rfl rfl (by kernel_rfl) (fun _ _ _ h => h) (Or.inl ⟨by rfl, ?_⟩) hHeld ?_ ?_
  rotate_left
  · intro w' s0
    go_simp
    with_reducible rfl
  rotate_left
  · simp only [Act.put, List.setIfInBounds_toArray, List.set_cons_zero, List.set_cons_succ, i64_w, i32_w]
    rfl
  refine pure_ (i := 5) (N := some 9) (v := ?_) (a' := ?_) #[true, true, false, true, true, true, false, false] rfl rfl (by kernel_rfl) (fun _ _ _ h => h) (Or.inl ⟨by rfl, ?_⟩) ?_ ?_
  rotate_left
  · intro w'
    go_simp
    with_reducible rfl
  rotate_left
  · simp only [Act.put, List.setIfInBounds_toArray, List.set_cons_zero, List.set_cons_succ, i64_w, i32_w]
    rfl
  refine one_ (i := 2) (N := some 6) #[true, true, true, true, true, true, false, false] rfl rfl (by kernel_rfl) (by decide) (fun K hK => ?_)
  refine goes_ Tryz.func70 (by kernel_rfl) rfl #[.slice (some ⟨w.heap.size, 0, none⟩) 32 32] (by rfl) rfl rfl (by simp only [List.map_toArray, List.map_cons, List.map_nil]; rfl) ?_
  with_reducible refine (led_clone c s r g HCC.out HSS.out HRR.out W2 w.heap.size HBK.out).mono ?_
  rintro e w3 ⟨v3, rfl, ho3, hb3⟩
  refine ⟨_, rfl, ?_⟩
  have HO3 := Aside0.mk ho3
  have HB3 := Aside0.mk hb3
  clear ho3 hb3
  have hc0 := pw_cell_below HB3.out HC0.out
  refine hK.out _ _ (hc0) (fun hHeld => ?_)
  clear hK K
  refine norm_ (a' := ?_) ?_ ?_
  rotate_left
  · show Act.put _ (some 6) _ = _
    simp only [Act.put, List.setIfInBounds_toArray, List.set_cons_zero, List.set_cons_succ, i64_w, i32_w]
    rfl
  refine one_ (i := 6) (N := some 10) #[true, true, true, true, true, true, true, false] rfl rfl (by kernel_rfl) (by decide) (fun K hK => ?_)
  refine goes_ Tryz.func29 (by kernel_rfl) rfl #[v3, .int .u64 (IntKind.u64.wrap g)] (by rfl) rfl rfl (by simp only [List.map_toArray, List.map_cons, List.map_nil]; rfl) ?_
  with_reducible refine (num_PutVar.calls k (fun _ => True) v3 s (IntKind.u64.wrap g) t W2 w3 HB3.out HO3.out HPUT.out).mono ?_
  rintro e w4 ⟨v4, rfl, ho4, hb4, _⟩
  refine ⟨_, rfl, ?_⟩
  have HO4 := Aside0.mk ho4
  have HB4 := Aside0.mk hb4
  clear ho4 hb4
  have hc0 := pw_cell_below HB4.out HC0.out
  refine hK.out _ _ (hc0) (fun hHeld => ?_)
  clear hK K
  refine norm_ (a' := ?_) ?_ ?_
  rotate_left
  · show Act.put _ (some 10) _ = _
    simp only [Act.put, List.setIfInBounds_toArray, List.set_cons_zero, List.set_cons_succ, i64_w, i32_w]
    rfl
  refine pure_ (i := 7) (N := some 3) (v := ?_) (a' := ?_) #[true, true, true, true, true, true, true, true] rfl rfl (by kernel_rfl) (fun _ _ _ h => h) (Or.inl ⟨by rfl, ?_⟩) ?_ ?_
  rotate_left
  · intro w'
    go_simp
    with_reducible rfl
  rotate_left
  · simp only [Act.put, List.setIfInBounds_toArray, List.set_cons_zero, List.set_cons_succ, i64_w, i32_w]
    rfl
  refine done_ (by kernel_rfl) ?_
  have HB34 := Aside0.mk (HBW.out.trans (HB4.out.mono HBW.out.size))
  have HBK4 := Aside0.mk ((HB4.out.block _ (blk_lt HBK.out)).trans HBK.out)
  have hC2 := ent_C2 c s r g HCC.out HSS.out HRR.out w4 w.heap.size _ HBK4.out
  have hL : t.length + r.length < 140737488355328 := by rw [HRR.out]; exact HT.out
  rw [HRR.out] at hC2
  have HC2 := Aside0.mk hC2
  have HLN := Aside0.mk hL
  clear hC2 hL hc0
  go_wp2_with ((with_reducible refine gate_builtin (b := .append) (xs := #[.tmp 11, .tmp 13]) rfl ?_); at_builtin; refine Kd.R_append_rows (Kd.int .u8) (w0 := W2) W2.heap.size rfl (.tmp 11) (.tmp 13) 30 5 (.int .u8 0) 1 rfl Tryz.underlying30 info5 rfl (by decide) (by omega) v4 t r _ _ _ (fun _ => True) (fun _ => False) rfl rfl ?aO ?aR (fun _ _ h => h) (fun _ h => h.elim) ?aF ?aB ?aS ?aL ?_; (case aR => exact HC2.out); (case aB => exact HB4.out); (case aF => exact (fun _ _ => trivial)); (case aO => exact Kd.R_mono HO4.out (fun _ _ => trivial)); (case aS => exact HB4.out.size); (case aL => have := HT.out; omega); intro v7 w7 ho hb hg hat; rw [← HY.out] at ho; have HB7 := Aside0.mk hb; have HO7 := Aside0.mk ho; clear ho hb hg hat)
  go_ret
  exact ⟨_, rfl, Kd.R_lower (Kd.R_mono HO7.out (fun _ _ => trivial)) HBW.out.size, HBW.out.trans (HB7.out.mono HBW.out.size)⟩
end Go.Proofs.YtjmhiklmlgbifaaGreatDoor.PMan
end

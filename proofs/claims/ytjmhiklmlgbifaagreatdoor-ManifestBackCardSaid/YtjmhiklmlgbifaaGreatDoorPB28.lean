/- Texts of this proof, put into one, without what it does not use: MrF, MrG, MrI, RfB, RfC, ManL. -/
import Derived.Test.YtjmhiklmlgbifaaGreatDoorPB12
import Derived.Test.YtjmhiklmlgbifaaGreatDoorPB27
import Derived.Test.YtjmhiklmlgbifaaGreatDoorPB11
import Derived.Test.YtjmhiklmlgbifaaGreatDoorPB26
import Derived.Outline
section
namespace Go.Proofs.YtjmhiklmlgbifaaGreatDoor.PMan
open Go.RowKit Go.Proofs.YtjmhiklmlgbifaaGreatDoorW.PrintWords Go.Proofs.YtjmhiklmlgbifaaGreatDoorW.PrintLast Go.Proofs.YtjmhiklmlgbifaaGreatDoorW.PrintMore
set_option linter.unusedVariables false
set_option linter.unusedSimpArgs false
theorem App.one (w : World) (x : Int) : App w (w.alloc (.cells #[.int .u8 x] 5)) (.slice (some ⟨w.heap.size, 0, none⟩) 1 1) [x] := by
  refine ⟨below_alloc (Below.refl _ _) _, fun k hk => trivial, [.int .u8 x], ?_, Reps.one (show Kd.M (Kd.int .u8) _ _ _ x [.int .u8 x] from rfl) (Reps.none _ _)⟩
  have h2 := World.ownsRow_lit (base := w.heap.size) (e := 5) (size := 1) w #[.int .u8 x] 1 (Nat.le_refl _) (by decide) rfl
  show World.ownsRow _ w.heap.size 5 1 _ _ _
  simpa using h2
end Go.Proofs.YtjmhiklmlgbifaaGreatDoor.PMan
end
section
namespace Go.Proofs.YtjmhiklmlgbifaaGreatDoor.PMan
open Go.RowKit Go.Proofs.YtjmhiklmlgbifaaGreatDoorW.PrintWords Go.Proofs.YtjmhiklmlgbifaaGreatDoorW.PrintLast Go.Proofs.YtjmhiklmlgbifaaGreatDoorW.PrintMore
set_option linter.unusedVariables false
set_option linter.unusedSimpArgs false
theorem range_part {w : World} {b o : Nat} {pre cs post : List Value} (h : w.rangeAt b o (pre ++ (cs ++ post))) (n : Nat) (hn : n = o + pre.length) : w.rangeAt b n cs := by
  intro j v hj
  subst hn
  have hl := (List.getElem?_eq_some_iff.1 hj).1
  have := h (pre.length + j) v (by rw [List.getElem?_append_right (by omega), Nat.add_sub_cancel_left, List.getElem?_append_left hl, hj])
  rwa [← Nat.add_assoc] at this
theorem z_all (z : S70) : ((zCells z).toArray).all (·.oneCell') = true := by
  simp [zCells, Value.oneCell']
end Go.Proofs.YtjmhiklmlgbifaaGreatDoor.PMan
end
section
namespace Go.Proofs.YtjmhiklmlgbifaaGreatDoor.PMan
open Go.RowKit Go.Proofs.YtjmhiklmlgbifaaGreatDoorW.PrintWords Go.Proofs.YtjmhiklmlgbifaaGreatDoorW.PrintLast Go.Proofs.YtjmhiklmlgbifaaGreatDoorW.PrintMore
set_option linter.unusedVariables false
set_option linter.unusedSimpArgs false
theorem great14 (r : List S68) : ∀ (d i e : Nat), i + d = 70 → ∃ g, estreatref14_Great.l0 (2 * d + 2 + e) r 70 60 (i : Int) = some g ∧ (g = false → r.length ≤ 70 ∧ ∀ t, i ≤ t → t < r.length → (r.getD t z68).f2.size ≤ 60)
  | 0, i, e, hd => by
    obtain rfl : i = 70 := by omega
    rw [show 2 * 0 + 2 + e = (e + 1) + 1 by omega, estreatref14_Great.l0]
    by_cases h : ((70 : Nat) : Int) < (r.length : Int)
    · rw [if_pos h, show decide (((70 : Nat) : Int) < 70) = false from rfl, estreatref14_Great.j1, if_neg (by decide)]
      exact ⟨_, rfl, fun g => by simp at g; omega⟩
    · rw [if_neg h, estreatref14_Great.j1, if_neg (by decide)]
      exact ⟨_, rfl, fun g => ⟨by omega, fun t h1 h2 => by omega⟩⟩
  | d + 1, i, e, hd => by
    rw [show 2 * (d + 1) + 2 + e = (2 * d + 2 + e + 1) + 1 by omega, estreatref14_Great.l0]
    by_cases h : (i : Int) < (r.length : Int)
    · have hw : wrap64 ((i : Int) + 1) = ((i + 1 : Nat) : Int) := by unfold wrap64; omega
      have e1 : rd_T68 r (i : Int) = r.getD i z68 := rfl
      rw [if_pos h, decide_eq_true (show (i : Int) < 70 by omega), estreatref14_Great.j1, if_pos rfl, if_pos (by omega), if_pos h, hw, e1]
      by_cases hs : ((r.getD i z68).f2.size : Int) > 60
      · rw [if_pos hs]
        exact ⟨true, rfl, fun g => by cases g⟩
      · rw [if_neg hs]
        obtain ⟨g, hg, hf⟩ := great14 r d (i + 1) e (by omega)
        refine ⟨g, hg, fun q => ⟨(hf q).1, fun t h1 h2 => ?_⟩⟩
        rcases Nat.lt_or_eq_of_le h1 with h3 | rfl
        · exact (hf q).2 t h3 h2
        · omega
    · rw [if_neg h, estreatref14_Great.j1, if_neg (by decide)]
      exact ⟨_, rfl, fun g => ⟨by omega, fun t h1 h2 => by omega⟩⟩
/-- A row that is looked at. -/
def SmallRow (r : List S68) : Prop := r.length ≤ 70 ∧ ∀ t, t < r.length → (r.getD t z68).f2.size ≤ 60
theorem great14_f (r : List S68) (e : Nat) : ∃ g, estreatref14_Great.f (142 + e) r 70 60 = some g ∧ (g = false → SmallRow r) := by
  obtain ⟨g, hg, hf⟩ := great14 r 70 0 e rfl
  exact ⟨g, hg, fun q => ⟨(hf q).1, fun t ht => (hf q).2 t (Nat.zero_le _) ht⟩⟩
theorem great15 (l : List (List S68)) : ∀ (d i e : Nat), i + d = 40 → ∃ g, estreatref15_GreatRows.l0 (2 * d + 2 + 142 + e) l 40 70 60 (i : Int) = some g ∧ (g = false → l.length ≤ 40 ∧ ∀ t, i ≤ t → t < l.length → SmallRow (l.getD t []))
  | 0, i, e, hd => by
    obtain rfl : i = 40 := by omega
    rw [show 2 * 0 + 2 + 142 + e = (142 + e + 1) + 1 by omega, estreatref15_GreatRows.l0]
    by_cases h : ((40 : Nat) : Int) < (l.length : Int)
    · rw [if_pos h, show decide (((40 : Nat) : Int) < 40) = false from rfl, estreatref15_GreatRows.j1, if_neg (by decide)]
      exact ⟨_, rfl, fun g => by simp at g; omega⟩
    · rw [if_neg h, estreatref15_GreatRows.j1, if_neg (by decide)]
      exact ⟨_, rfl, fun g => ⟨by omega, fun t h1 h2 => by omega⟩⟩
  | d + 1, i, e, hd => by
    rw [show 2 * (d + 1) + 2 + 142 + e = (2 * d + 2 + 142 + e + 1) + 1 by omega, estreatref15_GreatRows.l0]
    by_cases h : (i : Int) < (l.length : Int)
    · have hw : wrap64 ((i : Int) + 1) = ((i + 1 : Nat) : Int) := by unfold wrap64; omega
      have e1 : rd_L6 l (i : Int) = l.getD i [] := rfl
      obtain ⟨g0, hg0, hf0⟩ := great14_f (l.getD i []) (2 * d + 2 + e)
      rw [if_pos h, decide_eq_true (show (i : Int) < 40 by omega), estreatref15_GreatRows.j1, if_pos rfl, if_pos (by omega), if_pos h, hw, e1, show 2 * d + 2 + 142 + e = 142 + (2 * d + 2 + e) by omega, hg0, Option.bind_some]
      cases g0 with
      | true => exact ⟨true, rfl, fun g => by cases g⟩
      | false =>
        rw [if_neg (by decide)]
        obtain ⟨g, hg, hf⟩ := great15 l d (i + 1) e (by omega)
        refine ⟨g, by rw [← hg]; congr 1; omega, fun q => ⟨(hf q).1, fun t h1 h2 => ?_⟩⟩
        rcases Nat.lt_or_eq_of_le h1 with h3 | rfl
        · exact (hf q).2 t h3 h2
        · exact hf0 rfl
    · rw [if_neg h, estreatref15_GreatRows.j1, if_neg (by decide)]
      exact ⟨_, rfl, fun g => ⟨by omega, fun t h1 h2 => by omega⟩⟩
theorem great15_f (l : List (List S68)) : ∃ g, estreatref15_GreatRows.f 224 l 40 70 60 = some g ∧ (g = false → l.length ≤ 40 ∧ ∀ t, t < l.length → SmallRow (l.getD t [])) := by
  obtain ⟨g, hg, hf⟩ := great15 l 40 0 0 rfl
  exact ⟨g, hg, fun q => ⟨(hf q).1, fun t ht => (hf q).2 t (Nat.zero_le _) ht⟩⟩
def SmallCol (c : CH) : Prop := c.z.f2.f2.size ≤ 60 ∧ c.z.f3.f2.size ≤ 60
def SmallGroup (g : Rf) : Prop := g.hd.cols.length ≤ 70 ∧ g.dead.length ≤ 100 ∧ ∀ t, t < g.hd.cols.length → SmallCol (g.hd.cols.getD t zCH)
/-- A manifest that is looked at. -/
structure Small (m : Mn) : Prop where
  s : m.schema.length ≤ 70
  gn : m.groups.length ≤ 30
  en : m.entries.length ≤ 40
  ln : m.loose.length ≤ 40
  l : ∀ t, t < m.loose.length → SmallRow (m.loose.getD t [])
  g : ∀ t, t < m.groups.length → SmallGroup (m.groups.getD t zRf)
def GreatPost (m : Mn) (w : World) (e : Ending) (w' : World) : Prop := ∃ g : Bool, e = .returned (.bool g) ∧ (g = false → Small m) ∧ Below w.heap.size w w'
def AllG (m : Mn) (i : Nat) : Prop := ∀ t, t < i → SmallGroup (m.groups.getD t zRf)
def AllC (l : List CH) (i : Nat) : Prop := ∀ t, t < i → SmallCol (l.getD t zCH)
theorem AllG.next {m : Mn} {i : Nat} (h : AllG m i) (h1 : SmallGroup (m.groups.getD i zRf)) : AllG m (i + 1) := fun t ht => by
  rcases Nat.lt_succ_iff_lt_or_eq.1 ht with h2 | rfl
  · exact h t h2
  · exact h1
theorem AllC.next {l : List CH} {i : Nat} (h : AllC l i) (h1 : SmallCol (l.getD i zCH)) : AllC l (i + 1) := fun t ht => by
  rcases Nat.lt_succ_iff_lt_or_eq.1 ht with h2 | rfl
  · exact h t h2
  · exact h1
set_option maxHeartbeats 8000000 in
set_option maxRecDepth 100000 in
theorem great_calls (m : Mn) (As : Option Addr) (cs : Nat) (Ag : Option Addr) (cg : Nat) (Al : Option Addr) (cl : Nat) (Ae : Option Addr) (ce : Nat) (w : World) (hm : MnC w m As cs Ag cg Al cl Ae ce) :
    Calls Tryz.prog 8 #[.agg (mnCells m As cs Ag cg Al cl Ae ce)] w (GreatPost m w) := by
  have HM := Aside0.mk hm
  have hbs : m.schema.length ≤ 9223372036854775807 := hm.s.2.1
  have hbl : m.loose.length ≤ 9223372036854775807 := hm.l.2.1
  have hbe : m.entries.length ≤ 9223372036854775807 := hm.e.2.1
  have hbg : m.groups.length ≤ 9223372036854775807 := hm.g.2.1
  clear hm
  unfold mnCells
  by_cases s1 : (m.schema.length : Int) > 70
  · go_enter Tryz.func8, Tryz.ntmps8
    go_wp2
    go_ret
    exact ⟨true, rfl, (fun h => by cases h), below_alloc (Below.refl _ _) _⟩
  by_cases s2 : (m.groups.length : Int) > 30
  · go_enter Tryz.func8, Tryz.ntmps8
    go_wp2
    go_ret
    exact ⟨true, rfl, (fun h => by cases h), below_alloc (Below.refl _ _) _⟩
  by_cases s3 : (m.entries.length : Int) > 40
  · go_enter Tryz.func8, Tryz.ntmps8
    go_wp2
    go_ret
    exact ⟨true, rfl, (fun h => by cases h), below_alloc (Below.refl _ _) _⟩
  obtain ⟨g, hg, hgf⟩ := great15_f m.loose
  have HG := Aside0.mk hg
  have HGF := Aside0.mk hgf
  clear hg hgf
  go_enter Tryz.func8, Tryz.ntmps8
  go_wp2_with fail
  have hx0 := heap_alloc_new w (.cells #[.int .i64 m.gen, .int .i64 m.next, .slice As m.schema.length cs, .int .i64 m.most, .slice Ag m.groups.length cg, .slice Al m.loose.length cl, .slice Ae m.entries.length ce] 27)
  have hb0 : Below w.heap.size w (w.alloc (.cells #[.int .i64 m.gen, .int .i64 m.next, .slice As m.schema.length cs, .int .i64 m.most, .slice Ag m.groups.length cg, .slice Al m.loose.length cl, .slice Ae m.entries.length ce] 27)) := below_alloc (Below.refl _ _) _
  generalize w.alloc (.cells #[.int .i64 m.gen, .int .i64 m.next, .slice As m.schema.length cs, .int .i64 m.most, .slice Ag m.groups.length cg, .slice Al m.loose.length cl, .slice Ae m.entries.length ce] 27) = W0 at *
  refine (estreatref15_GreatRows.calls 224 Al cl m.loose 40 70 60 g W0 (Kd.C_below HM.out.l hb0) HM.out.hl HG.out).mono ?_
  rintro e w1 ⟨rfl, ⟨nd, rfl⟩⟩
  have hb1 : Below W0.heap.size W0 (W0.drewN nd) := pw_below_drewN (Below.refl _ _) nd
  have HB1 := Aside0.mk (below_call hb0 hb1)
  have HX1 := Aside0.mk ((hb1.block _ (blk_lt hx0)).trans hx0)
  clear hb1 hb0 hx0
  generalize W0.drewN nd = w1 at *
  clear W0
  cases g with
  | true =>
    go_wp2
    go_ret
    exact ⟨true, rfl, (fun h => by cases h), HB1.out⟩
  | false =>
  have HLS := Aside0.mk (HGF.out rfl)
  clear HG HGF
  go_wp2_with fail
  go_loopw [3] (fun v3 w' => ∃ i : Nat, i ≤ m.groups.length ∧ v3 = .int .i64 i ∧ Aside0 (AllG m i) ∧ Aside0 (Below w.heap.size w w') ∧ Aside0 (w'.heap[w.heap.size]? = some (.cells #[.int .i64 m.gen, .int .i64 m.next, .slice As m.schema.length cs, .int .i64 m.most, .slice Ag m.groups.length cg, .slice Al m.loose.length cl, .slice Ae m.entries.length ce] 27 (0, 0)))) (fun i _ => m.groups.length - (intOf i).toNat)
  case atStart => exact ⟨0, Nat.zero_le _, rfl, ⟨fun t ht => absurd ht (Nat.not_lt_zero _)⟩, HB1, HX1⟩
  case round =>
    obtain ⟨i, hi, rfl, HA, HB, HH⟩ := hrel
    have q4 : wr.cell? ⟨w.heap.size, 4, none⟩ = some (.slice Ag m.groups.length cg) := blk_cell HH.out 4
    by_cases hlt : i < m.groups.length
    · obtain ⟨b, o, ks, e1, hK, hcl, hmm⟩ := C_mid (Kd.C_below HM.out.g HB.out) zRf i hlt (by decide)
      have hnx : SmallGroup (m.groups.getD i zRf) → AllG m (i + 1) := HA.out.next
      generalize m.groups.getD i zRf = x at *
      obtain ⟨A, c, B, d, rfl, h32, hc, hC, hd, hD⟩ := kRf_open hK
      rw [kRf_sz] at hmm hcl
      have c35 : wr.cell? ⟨b, o + i * 37 + 35, none⟩ = some (.slice A x.hd.cols.length c) := hmm 35 _ (by
        unfold rfCells hdCells
        rw [List.getElem?_cons_succ, List.getElem?_append_left (by simp [hashCells, h32]), List.getElem?_cons_succ, List.getElem?_cons_succ, List.getElem?_append_right (by simp [hashCells, h32])]
        simp [hashCells, h32])
      have c36 : wr.cell? ⟨b, o + i * 37 + 36, none⟩ = some (.slice B x.dead.length d) := hmm 36 _ (by have := rf_36 x A c B d h32; rwa [List.getElem?_toArray] at this)
      have HNX := Aside0.mk hnx
      have HC := Aside0.mk hC
      have hbc : x.hd.cols.length ≤ 9223372036854775807 := hC.2.1
      have hbd : x.dead.length ≤ 9223372036854775807 := hD.2.1
      cases e1
      clear hnx hK hcl hmm hC h32 hc hD hd
      by_cases k1 : (x.hd.cols.length : Int) > 70
      · go_wp2
        go_ret
        exact ⟨true, rfl, (fun h => by cases h), HB.out⟩
      by_cases k2 : (x.dead.length : Int) > 100
      · go_wp2
        go_ret
        exact ⟨true, rfl, (fun h => by cases h), HB.out⟩
      have C35 := Aside0.mk c35
      have HBR := HB
      have HHR := HH
      go_wp2_with fail
      go_loopw [4] (fun v4 w' => ∃ j : Nat, j ≤ x.hd.cols.length ∧ v4 = .int .i64 j ∧ Aside0 (AllC x.hd.cols j) ∧ Aside0 (Below wr.heap.size wr w') ∧ Aside0 (w'.heap[w.heap.size]? = some (.cells #[.int .i64 m.gen, .int .i64 m.next, .slice As m.schema.length cs, .int .i64 m.most, .slice (some ⟨b, o, none⟩) m.groups.length cg, .slice Al m.loose.length cl, .slice Ae m.entries.length ce] 27 (0, 0)))) (fun i _ => x.hd.cols.length - (intOf i).toNat)
      case atStart => exact ⟨0, Nat.zero_le _, rfl, ⟨fun t ht => absurd ht (Nat.not_lt_zero _)⟩, ⟨Below.refl _ _⟩, HHR⟩
      case round =>
        clear q4 c35 c36 HH
        obtain ⟨j, hj, rfl, HA2, HB2, HH2⟩ := hrel
        have q4 : wr.cell? ⟨w.heap.size, 4, none⟩ = some (.slice (some ⟨b, o, none⟩) m.groups.length cg) := blk_cell HH2.out 4
        have c35 := pw_cell_below HB2.out C35.out
        by_cases hjt : j < x.hd.cols.length
        · obtain ⟨b2, o2, ks, e2, hK, hcl, hmm⟩ := C_mid (Kd.C_below HC.out HB2.out) zCH j hjt (by decide)
          have hnx : SmallCol (x.hd.cols.getD j zCH) → AllC x.hd.cols (j + 1) := HA2.out.next
          generalize x.hd.cols.getD j zCH = y at *
          obtain ⟨rfl, hh⟩ := kCH_open hK
          rw [kCH_sz] at hmm hcl
          have HMZ := Aside0.mk (range_part (pre := []) (cs := zCells y.z) (post := hashCells y.h) hmm (o2 + j * 40) rfl)
          have HNX2 := Aside0.mk hnx
          have hb1 : y.z.f2.f2.size ≤ 9223372036854775807 ∨ True := .inr trivial
          cases e2
          clear hnx hK hcl hmm hh hb1
          by_cases t1 : (y.z.f2.f2.size : Int) > 60
          · go_wp2_with (first | (refine wpList_load_mid rfl 70 (.tmp 74) rfl b2 (o2 + j * 40) rfl (zCells y.z) _ HMZ.out Tryz.underlying70 rfl (by kernel_rfl) ?_) | (refine wpList_store_row rfl 70 (.tmp 5) (.tmp 75) rfl wr.heap.size ((zCells y.z).toArray) rfl rfl 70 _ (heap_alloc_new wr _) (by kernel_rfl) (by rfl) (z_all _) ?_; rw [World.setRow_alloc_new]; have hx := heap_alloc_new wr (.cells (zCells y.z).toArray 70); have hbr : Below wr.heap.size wr (wr.alloc (.cells (zCells y.z).toArray 70)) := below_alloc (Below.refl _ _) _; have HB6 := Aside0.mk (below_call HB2.out hbr); have HX6 := Aside0.mk ((hbr.block _ (blk_lt HH2.out)).trans HH2.out); clear q4 c35; generalize (wr.alloc (.cells (zCells y.z).toArray 70)) = W6 at *; have p4 : W6.cell? ⟨wr.heap.size, 4, none⟩ = some (.string y.z.f2.f2) := (blk_cell hx 4).trans rfl; have p7 : W6.cell? ⟨wr.heap.size, 7, none⟩ = some (.string y.z.f3.f2) := (blk_cell hx 7).trans rfl; clear hx hbr))
            go_ret
            exact ⟨true, rfl, (fun h => by cases h), below_call HBR.out HB6.out⟩
          by_cases t2 : (y.z.f3.f2.size : Int) > 60
          · go_wp2_with (first | (refine wpList_load_mid rfl 70 (.tmp 74) rfl b2 (o2 + j * 40) rfl (zCells y.z) _ HMZ.out Tryz.underlying70 rfl (by kernel_rfl) ?_) | (refine wpList_store_row rfl 70 (.tmp 5) (.tmp 75) rfl wr.heap.size ((zCells y.z).toArray) rfl rfl 70 _ (heap_alloc_new wr _) (by kernel_rfl) (by rfl) (z_all _) ?_; rw [World.setRow_alloc_new]; have hx := heap_alloc_new wr (.cells (zCells y.z).toArray 70); have hbr : Below wr.heap.size wr (wr.alloc (.cells (zCells y.z).toArray 70)) := below_alloc (Below.refl _ _) _; have HB6 := Aside0.mk (below_call HB2.out hbr); have HX6 := Aside0.mk ((hbr.block _ (blk_lt HH2.out)).trans HH2.out); clear q4 c35; generalize (wr.alloc (.cells (zCells y.z).toArray 70)) = W6 at *; have p4 : W6.cell? ⟨wr.heap.size, 4, none⟩ = some (.string y.z.f2.f2) := (blk_cell hx 4).trans rfl; have p7 : W6.cell? ⟨wr.heap.size, 7, none⟩ = some (.string y.z.f3.f2) := (blk_cell hx 7).trans rfl; clear hx hbr))
            go_ret
            exact ⟨true, rfl, (fun h => by cases h), below_call HBR.out HB6.out⟩
          go_wp2_with (first | (refine wpList_load_mid rfl 70 (.tmp 74) rfl b2 (o2 + j * 40) rfl (zCells y.z) _ HMZ.out Tryz.underlying70 rfl (by kernel_rfl) ?_) | (refine wpList_store_row rfl 70 (.tmp 5) (.tmp 75) rfl wr.heap.size ((zCells y.z).toArray) rfl rfl 70 _ (heap_alloc_new wr _) (by kernel_rfl) (by rfl) (z_all _) ?_; rw [World.setRow_alloc_new]; have hx := heap_alloc_new wr (.cells (zCells y.z).toArray 70); have hbr : Below wr.heap.size wr (wr.alloc (.cells (zCells y.z).toArray 70)) := below_alloc (Below.refl _ _) _; have HB6 := Aside0.mk (below_call HB2.out hbr); have HX6 := Aside0.mk ((hbr.block _ (blk_lt HH2.out)).trans HH2.out); clear q4 c35; generalize (wr.alloc (.cells (zCells y.z).toArray 70)) = W6 at *; have p4 : W6.cell? ⟨wr.heap.size, 4, none⟩ = some (.string y.z.f2.f2) := (blk_cell hx 4).trans rfl; have p7 : W6.cell? ⟨wr.heap.size, 7, none⟩ = some (.string y.z.f3.f2) := (blk_cell hx 7).trans rfl; clear hx hbr))
          go_roundw
          case rel => exact ⟨j + 1, by omega, by go_num, ⟨HNX2.out ⟨by omega, by omega⟩⟩, HB6, HX6⟩
          case measure => simp [intOf]; omega
        · obtain rfl : j = x.hd.cols.length := by omega
          have HS := Aside0.mk (HNX.out ⟨by omega, by omega, HA2.out⟩)
          have HBW := Aside0.mk (below_call HBR.out HB2.out)
          go_wp2
          go_roundw
          case rel => exact ⟨i + 1, by omega, by go_num, HS, HBW, HH2⟩
          case measure => simp [intOf]; omega
    · obtain rfl : i = m.groups.length := by omega
      have HS := Aside0.mk (show Small m from ⟨by omega, by omega, by omega, HLS.out.1, HLS.out.2, HA.out⟩)
      go_wp2
      go_ret
      exact ⟨false, rfl, (fun _ => HS.out), HB.out⟩
end Go.Proofs.YtjmhiklmlgbifaaGreatDoor.PMan
end
section
namespace Go.Proofs.YtjmhiklmlgbifaaGreatDoor.PMan
open Go.RowKit Go.Proofs.YtjmhiklmlgbifaaGreatDoorW.PrintWords Go.Proofs.YtjmhiklmlgbifaaGreatDoorW.PrintLast Go.Proofs.YtjmhiklmlgbifaaGreatDoorW.PrintMore
attribute [local go_sem] max2_int min2_int max_two min_two max_three min_three max_four min_four   -- for this text's walks alone
set_option linter.unusedVariables false
set_option linter.unusedSimpArgs false
def estreatref03_take.f (a0 : Int) (a1 : Int) : Option (Int) := if (Int.tmod a0 2) = a1 then (some ((Int.tdiv a0 2) % 4294967296)) else (some (Go.bits .xor .u32 ((Int.tdiv a0 2) % 4294967296) 3988292384))
mutual
def estreatref03_More.l0 : Nat → List Int → Int → Int → Option (Int)
  | 0, _, _, _ => none
  | k + 1, x1, x5, x6 => if x6 < (x1.length : Int) then (if 0 ≤ x6 then (estreatref03_More.l1 k x1 x5 x6 ((rd x1 x6) % 4294967296) 0) else (none)) else (some ((4294967295 - x5) % 4294967296))
def estreatref03_More.l1 : Nat → List Int → Int → Int → Int → Int → Option (Int)
  | 0, _, _, _, _, _ => none
  | k + 1, x1, x5, x6, x7, x8 => if x8 < 8 then ((estreatref03_take.f x5 (Int.tmod x7 2)).bind fun t259 => (estreatref03_More.l1 k x1 t259 x6 ((Int.tdiv x7 2) % 4294967296) (wrap64 (x8 + 1)))) else (estreatref03_More.l0 k x1 x5 (wrap64 (x6 + 1)))
end
end Go.Proofs.YtjmhiklmlgbifaaGreatDoor.PMan
end
section
namespace Go.Proofs.YtjmhiklmlgbifaaGreatDoor.PMan
open Go.RowKit Go.Proofs.YtjmhiklmlgbifaaGreatDoorW.PrintWords Go.Proofs.YtjmhiklmlgbifaaGreatDoorW.PrintLast Go.Proofs.YtjmhiklmlgbifaaGreatDoorW.PrintMore
attribute [local go_sem] max2_int min2_int max_two min_two max_three min_three max_four min_four   -- for this text's walks alone
set_option linter.unusedVariables false
set_option linter.unusedSimpArgs false
end Go.Proofs.YtjmhiklmlgbifaaGreatDoor.PMan
end
section
namespace Go.Proofs.YtjmhiklmlgbifaaGreatDoor.PMan
open Go.RowKit Go.Proofs.YtjmhiklmlgbifaaGreatDoorW.PrintWords Go.Proofs.YtjmhiklmlgbifaaGreatDoorW.PrintLast Go.Proofs.YtjmhiklmlgbifaaGreatDoorW.PrintMore
attribute [local go_sem] max2_int min2_int max_two min_two max_three min_three max_four min_four   -- for this text's walks alone
set_option linter.unusedVariables false
set_option linter.unusedSimpArgs false
set_option maxHeartbeats 1600000 in
set_option maxRecDepth 100000 in
theorem m_log3 (w : World) : Calls Tryz.prog 15 #[.int .i64 3] w fun e w' => e = .returned (.string ⟨#[108, 111, 103, 45, 51]⟩) ∧ w = w' := by
  go_enter Tryz.func15, Tryz.ntmps15
  go_wp2
  go_ret
  exact ⟨by kernel_rfl, rfl⟩
set_option maxHeartbeats 1600000 in
set_option maxRecDepth 100000 in
theorem m_group12 (w : World) : Calls Tryz.prog 17 #[.int .i64 12] w fun e w' => e = .returned (.string ⟨#[103, 114, 111, 117, 112, 45, 49, 50]⟩) ∧ w = w' := by
  go_enter Tryz.func17, Tryz.ntmps17
  go_wp2
  go_ret
  exact ⟨by kernel_rfl, rfl⟩
def estreatlaw26_awake.f : Option Bool := some true
set_option maxHeartbeats 4000000 in
set_option maxRecDepth 100000 in
theorem m_awake (w : World) (hG : ErrT w) : Calls Tryz.prog 9 #[] w fun ev w' => ev = .returned (.bool true) ∧ Below w.heap.size w w' := by
  have HG := Aside0.mk hG
  clear hG
  go_enter Tryz.func9, Tryz.ntmps9
  go_wp2_with fail
  refine (m_least w).mono ?_
  rintro ev w1 ⟨s1, e1, rfl, hM, hb⟩
  have HM1 := Aside0.mk hM
  have HB1 := Aside0.mk hb
  clear hM hb
  go_wp2_with fail
  refine (m_put s1 1 e1 1 w1 HM1.out).mono ?_
  rintro ev w2 ⟨v, rfl, hr, hb⟩
  obtain ⟨A, c, rfl⟩ := Kd.R_slice hr
  have hrd := Kd.R_reads' hr
  have HRD := Aside0.mk hrd.2.2
  have HCD := Aside0.mk hrd.2.1
  have HB2 := Aside0.mk (below_then HB1.out HB1.out.size hb)
  clear hr hb hrd
  go_wp2_with fail
  refine (m_take A c w2 HRD.out HCD.out (HG.out.of_below HB2.out)).mono ?_
  rintro ev w3 ⟨s, cs, e, ce, rfl, hM, hb⟩
  have HM3 := Aside0.mk hM
  have HB3 := Aside0.mk (below_then HB2.out HB2.out.size hb)
  clear hM hb
  go_wp2_with (refine wpList_store_row rfl 27 (.tmp 3) (.tmp 13) rfl w3.heap.size (MCells 0 0 (.slice (some ⟨s, 0, none⟩) 1 cs) 1 (.slice (some ⟨e, 0, none⟩) 1 ce)) rfl rfl 27 (MCells 0 0 (.slice none 0 0) 0 (.slice none 0 0)) (heap_alloc_new w3 _) (by kernel_rfl) rfl (by kernel_rfl) ?_; rw [World.setRow_alloc_new])
  have hx : (w3.alloc (.cells (MCells 0 0 (.slice (some ⟨s, 0, none⟩) 1 cs) 1 (.slice (some ⟨e, 0, none⟩) 1 ce)) 27)).drew.heap[w3.heap.size]? = some (.cells (MCells 0 0 (.slice (some ⟨s, 0, none⟩) 1 cs) 1 (.slice (some ⟨e, 0, none⟩) 1 ce)) 27 (0, 0)) := heap_alloc_new w3 _
  have hb4 : Below w3.heap.size w3 (w3.alloc (.cells (MCells 0 0 (.slice (some ⟨s, 0, none⟩) 1 cs) 1 (.slice (some ⟨e, 0, none⟩) 1 ce)) 27)).drew := below_drew (below_alloc (Below.refl _ _) _)
  have HX := Aside0.mk hx
  have HB4 := Aside0.mk (below_then HB3.out HB3.out.size hb4)
  have HM4 := Aside0.mk (HM3.out.below hb4)
  clear hb4
  refine start_ (n := 20) (S := fun w' => w'.heap[w3.heap.size]? = some (.cells (MCells 0 0 (.slice (some ⟨s, 0, none⟩) 1 cs) 1 (.slice (some ⟨e, 0, none⟩) 1 ce)) 27 (0, 0))) (ds := []) #[false, false, false, false, false, false, false, false, false, false, false, false, false, false, false, false, false, false, false, false] (by kernel_rfl) rfl rfl (hx) (fun hHeld => ?_)
  generalize (w3.alloc (.cells (MCells 0 0 (.slice (some ⟨s, 0, none⟩) 1 cs) 1 (.slice (some ⟨e, 0, none⟩) 1 ce)) 27)).drew = W4 at *
  refine one_ (i := 0) (N := some 15) #[true, false, false, false, false, false, false, false, false, false, false, false, false, false, false, false, false, false, false, false] rfl rfl (by kernel_rfl) (by decide) (fun K hK => ?_)
  refine goes_ Tryz.func15 (by kernel_rfl) rfl #[.int .i64 3] (by rfl) rfl rfl (by simp only [List.map_toArray, List.map_cons, List.map_nil]; rfl) ?_
  with_reducible refine (m_log3 _).mono ?_
  rintro ev w' ⟨rfl, rfl⟩
  refine ⟨_, rfl, ?_⟩
  refine hK.out _ _ (hx) (fun hHeld => ?_)
  clear hK K
  refine norm_ (a' := ?_) ?_ ?_
  rotate_left
  · show Act.put _ (some 15) _ = _
    simp only [Act.put, List.setIfInBounds_toArray, List.set_cons_zero, List.set_cons_succ, i64_w, i32_w]
    rfl
  refine pure_ (i := 1) (N := some 16) (v := ?_) (a' := ?_) #[true, true, false, false, false, false, false, false, false, false, false, false, false, false, false, false, false, false, false, false] rfl rfl (by kernel_rfl) (fun _ _ _ h => h) (Or.inl ⟨by rfl, ?_⟩) ?_ ?_
  rotate_left
  · intro w'
    go_simp
    with_reducible rfl
  rotate_left
  · simp only [Act.put, List.setIfInBounds_toArray, List.set_cons_zero, List.set_cons_succ, i64_w, i32_w]
    rfl
  refine pure_ (i := 2) (N := some 17) (v := ?_) (a' := ?_) #[true, true, true, false, false, false, false, false, false, false, false, false, false, false, false, false, false, false, false, false] rfl rfl (by kernel_rfl) (fun _ _ _ h => h) (Or.inl ⟨by rfl, ?_⟩) ?_ ?_
  rotate_left
  · intro w'
    go_simp
    with_reducible rfl
  rotate_left
  · simp only [Act.put, List.setIfInBounds_toArray, List.set_cons_zero, List.set_cons_succ, i64_w, i32_w]
    rfl
  refine one_ (i := 3) (N := some 18) #[true, true, true, true, false, false, false, false, false, false, false, false, false, false, false, false, false, false, false, false] rfl rfl (by kernel_rfl) (by decide) (fun K hK => ?_)
  refine goes_ Tryz.func17 (by kernel_rfl) rfl #[.int .i64 12] (by rfl) rfl rfl (by simp only [List.map_toArray, List.map_cons, List.map_nil]; rfl) ?_
  with_reducible refine (m_group12 _).mono ?_
  rintro ev w' ⟨rfl, rfl⟩
  refine ⟨_, rfl, ?_⟩
  refine hK.out _ _ (hx) (fun hHeld => ?_)
  clear hK K
  refine norm_ (a' := ?_) ?_ ?_
  rotate_left
  · show Act.put _ (some 18) _ = _
    simp only [Act.put, List.setIfInBounds_toArray, List.set_cons_zero, List.set_cons_succ, i64_w, i32_w]
    rfl
  refine pure_ (i := 4) (N := some 19) (v := ?_) (a' := ?_) #[true, true, true, true, true, false, false, false, false, false, false, false, false, false, false, false, false, false, false, false] rfl rfl (by kernel_rfl) (fun _ _ _ h => h) (Or.inl ⟨by rfl, ?_⟩) ?_ ?_
  rotate_left
  · intro w'
    go_simp
    with_reducible rfl
  rotate_left
  · simp only [Act.put, List.setIfInBounds_toArray, List.set_cons_zero, List.set_cons_succ, i64_w, i32_w]
    rfl
  refine pure_ (i := 5) (N := some 20) (v := ?_) (a' := ?_) #[true, true, true, true, true, true, false, false, false, false, false, false, false, false, false, false, false, false, false, false] rfl rfl (by kernel_rfl) (fun _ _ _ h => h) (Or.inl ⟨by rfl, ?_⟩) ?_ ?_
  rotate_left
  · intro w'
    go_simp
    with_reducible rfl
  rotate_left
  · simp only [Act.put, List.setIfInBounds_toArray, List.set_cons_zero, List.set_cons_succ, i64_w, i32_w]
    rfl
  refine pure_ (i := 6) (N := some 21) (v := ?_) (a' := ?_) #[true, true, true, true, true, true, true, false, false, false, false, false, false, false, false, false, false, false, false, false] rfl rfl (by kernel_rfl) (fun _ _ _ h => h) (Or.inl ⟨by rfl, ?_⟩) ?_ ?_
  rotate_left
  · intro w'
    go_simp
    with_reducible rfl
  rotate_left
  · simp only [Act.put, List.setIfInBounds_toArray, List.set_cons_zero, List.set_cons_succ, i64_w, i32_w]
    rfl
  refine pure_ (i := 7) (N := some 22) (v := ?_) (a' := ?_) #[true, true, true, true, true, true, true, true, false, false, false, false, false, false, false, false, false, false, false, false] rfl rfl (by kernel_rfl) (fun _ _ _ h => h) (Or.inl ⟨by rfl, ?_⟩) ?_ ?_
  rotate_left
  · intro w'
    go_simp
    with_reducible rfl
  rotate_left
  · simp only [Act.put, List.setIfInBounds_toArray, List.set_cons_zero, List.set_cons_succ, i64_w, i32_w]
    rfl
  refine pure_ (i := 8) (N := some 23) (v := ?_) (a' := ?_) #[true, true, true, true, true, true, true, true, true, false, false, false, false, false, false, false, false, false, false, false] rfl rfl (by kernel_rfl) (fun _ _ _ h => h) (Or.inl ⟨by rfl, ?_⟩) ?_ ?_
  rotate_left
  · intro w'
    go_simp
    with_reducible rfl
  rotate_left
  · simp only [Act.put, List.setIfInBounds_toArray, List.set_cons_zero, List.set_cons_succ, i64_w, i32_w]
    rfl
  refine pure_ (i := 9) (N := some 24) (v := ?_) (a' := ?_) #[true, true, true, true, true, true, true, true, true, true, false, false, false, false, false, false, false, false, false, false] rfl rfl (by kernel_rfl) (fun _ _ _ h => h) (Or.inl ⟨by rfl, ?_⟩) ?_ ?_
  rotate_left
  · intro w'
    go_simp
    with_reducible rfl
  rotate_left
  · simp only [Act.put, List.setIfInBounds_toArray, List.set_cons_zero, List.set_cons_succ, i64_w, i32_w]
    rfl
  refine pure_ (i := 10) (N := some 25) (v := ?_) (a' := ?_) #[true, true, true, true, true, true, true, true, true, true, true, false, false, false, false, false, false, false, false, false] rfl rfl (by kernel_rfl) (fun _ _ _ h => h) (Or.inl ⟨by rfl, ?_⟩) ?_ ?_
  rotate_left
  · intro w'
    go_simp
    with_reducible rfl
  rotate_left
  · simp only [Act.put, List.setIfInBounds_toArray, List.set_cons_zero, List.set_cons_succ, i64_w, i32_w]
    rfl
  refine pure_ (i := 11) (N := some 26) (v := ?_) (a' := ?_) #[true, true, true, true, true, true, true, true, true, true, true, true, false, false, false, false, false, false, false, false] rfl rfl (by kernel_rfl) (fun _ _ _ h => h) (Or.inl ⟨by rfl, ?_⟩) ?_ ?_
  rotate_left
  · intro w'
    go_simp
    with_reducible rfl
  rotate_left
  · simp only [Act.put, List.setIfInBounds_toArray, List.set_cons_zero, List.set_cons_succ, i64_w, i32_w]
    rfl
  refine pure_ (i := 12) (N := some 27) (v := ?_) (a' := ?_) #[true, true, true, true, true, true, true, true, true, true, true, true, true, false, false, false, false, false, false, false] rfl rfl (by kernel_rfl) (fun _ _ _ h => h) (Or.inl ⟨by rfl, ?_⟩) ?_ ?_
  rotate_left
  · intro w'
    go_simp
    with_reducible rfl
  rotate_left
  · simp only [Act.put, List.setIfInBounds_toArray, List.set_cons_zero, List.set_cons_succ, i64_w, i32_w]
    rfl
  refine pure_ (i := 13) (N := some 28) (v := ?_) (a' := ?_) #[true, true, true, true, true, true, true, true, true, true, true, true, true, true, false, false, false, false, false, false] rfl rfl (by kernel_rfl) (fun _ _ _ h => h) (Or.inl ⟨by rfl, ?_⟩) ?_ ?_
  rotate_left
  · intro w'
    go_simp
    with_reducible rfl
  rotate_left
  · simp only [Act.put, List.setIfInBounds_toArray, List.set_cons_zero, List.set_cons_succ, i64_w, i32_w]
    rfl
  refine pure_ (i := 14) (N := some 29) (v := ?_) (a' := ?_) #[true, true, true, true, true, true, true, true, true, true, true, true, true, true, true, false, false, false, false, false] rfl rfl (by kernel_rfl) (fun _ _ _ h => h) (Or.inl ⟨by rfl, ?_⟩) ?_ ?_
  rotate_left
  · intro w'
    go_simp
    with_reducible rfl
  rotate_left
  · simp only [Act.put, List.setIfInBounds_toArray, List.set_cons_zero, List.set_cons_succ, i64_w, i32_w]
    rfl
  refine take_ (i := 15) (N := some 30) (v := ?_) (a' := ?_) #[true, true, true, true, true, true, true, true, true, true, true, true, true, true, true, true, false, false, false, false] rfl rfl (by kernel_rfl) (fun _ _ _ h => h) (Or.inl ⟨by rfl, ?_⟩) hHeld ?_ ?_
  rotate_left
  · intro w' s0
    refine exec_load 27 (.tmp 3) ?_ w3.heap.size ?_ 27 (MCells 0 0 (.slice (some ⟨s, 0, none⟩) 1 cs) 1 (.slice (some ⟨e, 0, none⟩) 1 ce)) (0, 0) _ s0 Tryz.underlying27 rfl ?_
    · rfl
    · rfl
    · kernel_rfl
  rotate_left
  · simp only [Act.put, List.setIfInBounds_toArray, List.set_cons_zero, List.set_cons_succ, i64_w, i32_w]
    rfl
  refine one_ (i := 16) (N := some 31) #[true, true, true, true, true, true, true, true, true, true, true, true, true, true, true, true, true, false, false, false] rfl rfl (by kernel_rfl) (by decide) (fun K hK => ?_)
  refine goes_ Tryz.func28 (by kernel_rfl) rfl #[] (by rfl) rfl rfl (by simp) ?_
  with_reducible refine (m_least W4).mono ?_
  rintro ev w5 ⟨s2, e2, rfl, hM2, hb5⟩
  refine ⟨_, rfl, ?_⟩
  have HM2 := Aside0.mk hM2
  have HB5 := Aside0.mk hb5
  have hx := (hb5.block _ (blk_lt HX.out)).trans HX.out
  clear hM2 hb5
  refine hK.out _ _ (hx) (fun hHeld => ?_)
  clear hK K
  refine norm_ (a' := ?_) ?_ ?_
  rotate_left
  · show Act.put _ (some 31) _ = _
    simp only [Act.put, List.setIfInBounds_toArray, List.set_cons_zero, List.set_cons_succ, i64_w, i32_w]
    rfl
  refine one_ (i := 17) (N := some 32) #[true, true, true, true, true, true, true, true, true, true, true, true, true, true, true, true, true, true, false, false] rfl rfl (by kernel_rfl) (by decide) (fun K hK => ?_)
  refine goes_ Tryz.func20 (by kernel_rfl) rfl #[ManV s cs e ce, ManV s2 1 e2 1] (by rfl) rfl rfl (by simp only [List.map_toArray, List.map_cons, List.map_nil]; rfl) ?_
  with_reducible refine (m_same s cs e ce s2 1 e2 1 w5 (HM4.out.below HB5.out) HM2.out).mono ?_
  rintro ev w6 ⟨rfl, hb6⟩
  refine ⟨_, rfl, ?_⟩
  have HB6 := Aside0.mk hb6
  clear hb6
  refine hK.out _ _ ((HB6.out.block _ (blk_lt hx)).trans hx) (fun hHeld => ?_)
  clear hK K
  refine norm_ (a' := ?_) ?_ ?_
  rotate_left
  · show Act.put _ (some 32) _ = _
    simp only [Act.put, List.setIfInBounds_toArray, List.set_cons_zero, List.set_cons_succ, i64_w, i32_w]
    rfl
  refine pure_ (i := 18) (N := some 33) (v := ?_) (a' := ?_) #[true, true, true, true, true, true, true, true, true, true, true, true, true, true, true, true, true, true, true, false] rfl rfl (by kernel_rfl) (fun _ _ _ h => h) (Or.inl ⟨by rfl, ?_⟩) ?_ ?_
  rotate_left
  · intro w'
    go_simp
    with_reducible rfl
  rotate_left
  · simp only [Act.put, List.setIfInBounds_toArray, List.set_cons_zero, List.set_cons_succ, i64_w, i32_w]
    rfl
  refine pure_ (i := 19) (N := some 0) (v := ?_) (a' := ?_) #[true, true, true, true, true, true, true, true, true, true, true, true, true, true, true, true, true, true, true, true] rfl rfl (by kernel_rfl) (fun _ _ _ h => h) (Or.inl ⟨by rfl, ?_⟩) ?_ ?_
  rotate_left
  · intro w'
    go_simp
    with_reducible rfl
  rotate_left
  · simp only [Act.put, List.setIfInBounds_toArray, List.set_cons_zero, List.set_cons_succ, i64_w, i32_w]
    rfl
  refine done_ (by kernel_rfl) ?_
  go_wp2
  go_ret
  exact ⟨rfl, below_then (below_then HB4.out HB4.out.size HB5.out) (Nat.le_trans HB4.out.size HB5.out.size) HB6.out⟩
theorem estreatlaw26_awake.calls (r : Bool) (w : World) (hG : ErrT w) (h : estreatlaw26_awake.f = some r) :
    Calls Tryz.prog 9 #[] w fun e w' => e = .returned (.bool r) ∧ Below w.heap.size w w' := by
  obtain rfl := Option.some.inj h
  exact m_awake w hG
end Go.Proofs.YtjmhiklmlgbifaaGreatDoor.PMan
end

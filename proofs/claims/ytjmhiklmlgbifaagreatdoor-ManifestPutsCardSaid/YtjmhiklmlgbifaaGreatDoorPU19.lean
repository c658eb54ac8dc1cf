/- Texts of this proof, put into one, without what it does not use: MrI, RfB. -/
import Derived.Test.YtjmhiklmlgbifaaGreatDoorPU8
import Derived.Test.YtjmhiklmlgbifaaGreatDoorPU18
import Derived.Test.YtjmhiklmlgbifaaGreatDoorPU7
section
namespace Go.Proofs.YtjmhiklmlgbifaaGreatDoor.PMan
open Go.RowKit Go.Proofs.YtjmhiklmlgbifaaGreatDoorW.PrintWords Go.Proofs.YtjmhiklmlgbifaaGreatDoorW.PrintLast Go.Proofs.YtjmhiklmlgbifaaGreatDoorW.PrintMore
set_option linter.unusedVariables false
set_option linter.unusedSimpArgs false
theorem great14 (r : List S68) : ∀ (d i e : Nat), i + d = 70 → ∃ g, estreatref14_Great.l0 (2 * d + 2 + e) r 70 60 (i : Int) = some g ∧ (g = false → r.length ≤ 70 ∧ ∀ t, i ≤ t → t < r.length → (r.getD t z68).f2.size ≤ 60)
  | 0, i, e, hd => by
    obtain rfl : i = 70 := by omega
    rw [show 2 * 0 + 2 + e = (e + 1) + 1 by omega, estreatref14_Great.l0]
    by_cases h : ((70 : Nat) : Int) < (r.length : Int)
    · rw [if_pos h, show decide (((70 : Nat) : Int) < 70) = false from rfl, estreatref14_Great.j1, if_neg (by decide)]
      exact ⟨_, rfl, fun g => by simp at g; omega⟩
    · rw [if_neg h, estreatref14_Great.j1, if_neg (by decide)]
      exact ⟨_, rfl, fun g => ⟨by omega, fun t h1 h2 => by omega⟩⟩
  | d + 1, i, e, hd => by
    rw [show 2 * (d + 1) + 2 + e = (2 * d + 2 + e + 1) + 1 by omega, estreatref14_Great.l0]
    by_cases h : (i : Int) < (r.length : Int)
    · have hw : wrap64 ((i : Int) + 1) = ((i + 1 : Nat) : Int) := by unfold wrap64; omega
      have e1 : rd_T68 r (i : Int) = r.getD i z68 := rfl
      rw [if_pos h, decide_eq_true (show (i : Int) < 70 by omega), estreatref14_Great.j1, if_pos rfl, if_pos (by omega), if_pos h, hw, e1]
      by_cases hs : ((r.getD i z68).f2.size : Int) > 60
      · rw [if_pos hs]
        exact ⟨true, rfl, fun g => by cases g⟩
      · rw [if_neg hs]
        obtain ⟨g, hg, hf⟩ := great14 r d (i + 1) e (by omega)
        refine ⟨g, hg, fun q => ⟨(hf q).1, fun t h1 h2 => ?_⟩⟩
        rcases Nat.lt_or_eq_of_le h1 with h3 | rfl
        · exact (hf q).2 t h3 h2
        · omega
    · rw [if_neg h, estreatref14_Great.j1, if_neg (by decide)]
      exact ⟨_, rfl, fun g => ⟨by omega, fun t h1 h2 => by omega⟩⟩
/-- A row that is looked at. -/
def SmallRow (r : List S68) : Prop := r.length ≤ 70 ∧ ∀ t, t < r.length → (r.getD t z68).f2.size ≤ 60
theorem great14_f (r : List S68) (e : Nat) : ∃ g, estreatref14_Great.f (142 + e) r 70 60 = some g ∧ (g = false → SmallRow r) := by
  obtain ⟨g, hg, hf⟩ := great14 r 70 0 e rfl
  exact ⟨g, hg, fun q => ⟨(hf q).1, fun t ht => (hf q).2 t (Nat.zero_le _) ht⟩⟩
theorem great15 (l : List (List S68)) : ∀ (d i e : Nat), i + d = 40 → ∃ g, estreatref15_GreatRows.l0 (2 * d + 2 + 142 + e) l 40 70 60 (i : Int) = some g ∧ (g = false → l.length ≤ 40 ∧ ∀ t, i ≤ t → t < l.length → SmallRow (l.getD t []))
  | 0, i, e, hd => by
    obtain rfl : i = 40 := by omega
    rw [show 2 * 0 + 2 + 142 + e = (142 + e + 1) + 1 by omega, estreatref15_GreatRows.l0]
    by_cases h : ((40 : Nat) : Int) < (l.length : Int)
    · rw [if_pos h, show decide (((40 : Nat) : Int) < 40) = false from rfl, estreatref15_GreatRows.j1, if_neg (by decide)]
      exact ⟨_, rfl, fun g => by simp at g; omega⟩
    · rw [if_neg h, estreatref15_GreatRows.j1, if_neg (by decide)]
      exact ⟨_, rfl, fun g => ⟨by omega, fun t h1 h2 => by omega⟩⟩
  | d + 1, i, e, hd => by
    rw [show 2 * (d + 1) + 2 + 142 + e = (2 * d + 2 + 142 + e + 1) + 1 by omega, estreatref15_GreatRows.l0]
    by_cases h : (i : Int) < (l.length : Int)
    · have hw : wrap64 ((i : Int) + 1) = ((i + 1 : Nat) : Int) := by unfold wrap64; omega
      have e1 : rd_L6 l (i : Int) = l.getD i [] := rfl
      obtain ⟨g0, hg0, hf0⟩ := great14_f (l.getD i []) (2 * d + 2 + e)
      rw [if_pos h, decide_eq_true (show (i : Int) < 40 by omega), estreatref15_GreatRows.j1, if_pos rfl, if_pos (by omega), if_pos h, hw, e1, show 2 * d + 2 + 142 + e = 142 + (2 * d + 2 + e) by omega, hg0, Option.bind_some]
      cases g0 with
      | true => exact ⟨true, rfl, fun g => by cases g⟩
      | false =>
        rw [if_neg (by decide)]
        obtain ⟨g, hg, hf⟩ := great15 l d (i + 1) e (by omega)
        refine ⟨g, by rw [← hg]; congr 1; omega, fun q => ⟨(hf q).1, fun t h1 h2 => ?_⟩⟩
        rcases Nat.lt_or_eq_of_le h1 with h3 | rfl
        · exact (hf q).2 t h3 h2
        · exact hf0 rfl
    · rw [if_neg h, estreatref15_GreatRows.j1, if_neg (by decide)]
      exact ⟨_, rfl, fun g => ⟨by omega, fun t h1 h2 => by omega⟩⟩
theorem great15_f (l : List (List S68)) : ∃ g, estreatref15_GreatRows.f 224 l 40 70 60 = some g ∧ (g = false → l.length ≤ 40 ∧ ∀ t, t < l.length → SmallRow (l.getD t [])) := by
  obtain ⟨g, hg, hf⟩ := great15 l 40 0 0 rfl
  exact ⟨g, hg, fun q => ⟨(hf q).1, fun t ht => (hf q).2 t (Nat.zero_le _) ht⟩⟩
def SmallCol (c : CH) : Prop := c.z.f2.f2.size ≤ 60 ∧ c.z.f3.f2.size ≤ 60
def SmallGroup (g : Rf) : Prop := g.hd.cols.length ≤ 70 ∧ g.dead.length ≤ 100 ∧ ∀ t, t < g.hd.cols.length → SmallCol (g.hd.cols.getD t zCH)
/-- A manifest that is looked at. -/
structure Small (m : Mn) : Prop where
  s : m.schema.length ≤ 70
  gn : m.groups.length ≤ 30
  en : m.entries.length ≤ 40
  ln : m.loose.length ≤ 40
  l : ∀ t, t < m.loose.length → SmallRow (m.loose.getD t [])
  g : ∀ t, t < m.groups.length → SmallGroup (m.groups.getD t zRf)
def GreatPost (m : Mn) (w : World) (e : Ending) (w' : World) : Prop := ∃ g : Bool, e = .returned (.bool g) ∧ (g = false → Small m) ∧ Below w.heap.size w w'
def AllG (m : Mn) (i : Nat) : Prop := ∀ t, t < i → SmallGroup (m.groups.getD t zRf)
def AllC (l : List CH) (i : Nat) : Prop := ∀ t, t < i → SmallCol (l.getD t zCH)
theorem AllG.next {m : Mn} {i : Nat} (h : AllG m i) (h1 : SmallGroup (m.groups.getD i zRf)) : AllG m (i + 1) := fun t ht => by
  rcases Nat.lt_succ_iff_lt_or_eq.1 ht with h2 | rfl
  · exact h t h2
  · exact h1
theorem AllC.next {l : List CH} {i : Nat} (h : AllC l i) (h1 : SmallCol (l.getD i zCH)) : AllC l (i + 1) := fun t ht => by
  rcases Nat.lt_succ_iff_lt_or_eq.1 ht with h2 | rfl
  · exact h t h2
  · exact h1
set_option maxHeartbeats 8000000 in
set_option maxRecDepth 100000 in
theorem great_calls (m : Mn) (As : Option Addr) (cs : Nat) (Ag : Option Addr) (cg : Nat) (Al : Option Addr) (cl : Nat) (Ae : Option Addr) (ce : Nat) (w : World) (hm : MnC w m As cs Ag cg Al cl Ae ce) :
    Calls Tryz.prog 8 #[.agg (mnCells m As cs Ag cg Al cl Ae ce)] w (GreatPost m w) := by
  have HM := Aside0.mk hm
  have hbs : m.schema.length ≤ 9223372036854775807 := hm.s.2.1
  have hbl : m.loose.length ≤ 9223372036854775807 := hm.l.2.1
  have hbe : m.entries.length ≤ 9223372036854775807 := hm.e.2.1
  have hbg : m.groups.length ≤ 9223372036854775807 := hm.g.2.1
  clear hm
  unfold mnCells
  by_cases s1 : (m.schema.length : Int) > 70
  · go_enter Tryz.func8, Tryz.ntmps8
    go_wp2
    go_ret
    exact ⟨true, rfl, (fun h => by cases h), below_alloc (Below.refl _ _) _⟩
  by_cases s2 : (m.groups.length : Int) > 30
  · go_enter Tryz.func8, Tryz.ntmps8
    go_wp2
    go_ret
    exact ⟨true, rfl, (fun h => by cases h), below_alloc (Below.refl _ _) _⟩
  by_cases s3 : (m.entries.length : Int) > 40
  · go_enter Tryz.func8, Tryz.ntmps8
    go_wp2
    go_ret
    exact ⟨true, rfl, (fun h => by cases h), below_alloc (Below.refl _ _) _⟩
  obtain ⟨g, hg, hgf⟩ := great15_f m.loose
  have HG := Aside0.mk hg
  have HGF := Aside0.mk hgf
  clear hg hgf
  go_enter Tryz.func8, Tryz.ntmps8
  go_wp2_with fail
  have hx0 := heap_alloc_new w (.cells #[.int .i64 m.gen, .int .i64 m.next, .slice As m.schema.length cs, .int .i64 m.most, .slice Ag m.groups.length cg, .slice Al m.loose.length cl, .slice Ae m.entries.length ce] 27)
  have hb0 : Below w.heap.size w (w.alloc (.cells #[.int .i64 m.gen, .int .i64 m.next, .slice As m.schema.length cs, .int .i64 m.most, .slice Ag m.groups.length cg, .slice Al m.loose.length cl, .slice Ae m.entries.length ce] 27)) := below_alloc (Below.refl _ _) _
  generalize w.alloc (.cells #[.int .i64 m.gen, .int .i64 m.next, .slice As m.schema.length cs, .int .i64 m.most, .slice Ag m.groups.length cg, .slice Al m.loose.length cl, .slice Ae m.entries.length ce] 27) = W0 at *
  refine (estreatref15_GreatRows.calls 224 Al cl m.loose 40 70 60 g W0 (Kd.C_below HM.out.l hb0) HM.out.hl HG.out).mono ?_
  rintro e w1 ⟨rfl, ⟨nd, rfl⟩⟩
  have hb1 : Below W0.heap.size W0 (W0.drewN nd) := pw_below_drewN (Below.refl _ _) nd
  have HB1 := Aside0.mk (below_call hb0 hb1)
  have HX1 := Aside0.mk ((hb1.block _ (blk_lt hx0)).trans hx0)
  clear hb1 hb0 hx0
  generalize W0.drewN nd = w1 at *
  clear W0
  cases g with
  | true =>
    go_wp2
    go_ret
    exact ⟨true, rfl, (fun h => by cases h), HB1.out⟩
  | false =>
  have HLS := Aside0.mk (HGF.out rfl)
  clear HG HGF
  go_wp2_with fail
  go_loopw [3] (fun v3 w' => ∃ i : Nat, i ≤ m.groups.length ∧ v3 = .int .i64 i ∧ Aside0 (AllG m i) ∧ Aside0 (Below w.heap.size w w') ∧ Aside0 (w'.heap[w.heap.size]? = some (.cells #[.int .i64 m.gen, .int .i64 m.next, .slice As m.schema.length cs, .int .i64 m.most, .slice Ag m.groups.length cg, .slice Al m.loose.length cl, .slice Ae m.entries.length ce] 27 (0, 0)))) (fun i _ => m.groups.length - (intOf i).toNat)
  case atStart => exact ⟨0, Nat.zero_le _, rfl, ⟨fun t ht => absurd ht (Nat.not_lt_zero _)⟩, HB1, HX1⟩
  case round =>
    obtain ⟨i, hi, rfl, HA, HB, HH⟩ := hrel
    have q4 : wr.cell? ⟨w.heap.size, 4, none⟩ = some (.slice Ag m.groups.length cg) := blk_cell HH.out 4
    by_cases hlt : i < m.groups.length
    · obtain ⟨b, o, ks, e1, hK, hcl, hmm⟩ := C_mid (Kd.C_below HM.out.g HB.out) zRf i hlt (by decide)
      have hnx : SmallGroup (m.groups.getD i zRf) → AllG m (i + 1) := HA.out.next
      generalize m.groups.getD i zRf = x at *
      obtain ⟨A, c, B, d, rfl, h32, hc, hC, hd, hD⟩ := kRf_open hK
      rw [kRf_sz] at hmm hcl
      have c35 : wr.cell? ⟨b, o + i * 37 + 35, none⟩ = some (.slice A x.hd.cols.length c) := hmm 35 _ (by
        unfold rfCells hdCells
        rw [List.getElem?_cons_succ, List.getElem?_append_left (by simp [hashCells, h32]), List.getElem?_cons_succ, List.getElem?_cons_succ, List.getElem?_append_right (by simp [hashCells, h32])]
        simp [hashCells, h32])
      have c36 : wr.cell? ⟨b, o + i * 37 + 36, none⟩ = some (.slice B x.dead.length d) := hmm 36 _ (by have := rf_36 x A c B d h32; rwa [List.getElem?_toArray] at this)
      have HNX := Aside0.mk hnx
      have HC := Aside0.mk hC
      have hbc : x.hd.cols.length ≤ 9223372036854775807 := hC.2.1
      have hbd : x.dead.length ≤ 9223372036854775807 := hD.2.1
      cases e1
      clear hnx hK hcl hmm hC h32 hc hD hd
      by_cases k1 : (x.hd.cols.length : Int) > 70
      · go_wp2
        go_ret
        exact ⟨true, rfl, (fun h => by cases h), HB.out⟩
      by_cases k2 : (x.dead.length : Int) > 100
      · go_wp2
        go_ret
        exact ⟨true, rfl, (fun h => by cases h), HB.out⟩
      have C35 := Aside0.mk c35
      have HBR := HB
      have HHR := HH
      go_wp2_with fail
      go_loopw [4] (fun v4 w' => ∃ j : Nat, j ≤ x.hd.cols.length ∧ v4 = .int .i64 j ∧ Aside0 (AllC x.hd.cols j) ∧ Aside0 (Below wr.heap.size wr w') ∧ Aside0 (w'.heap[w.heap.size]? = some (.cells #[.int .i64 m.gen, .int .i64 m.next, .slice As m.schema.length cs, .int .i64 m.most, .slice (some ⟨b, o, none⟩) m.groups.length cg, .slice Al m.loose.length cl, .slice Ae m.entries.length ce] 27 (0, 0)))) (fun i _ => x.hd.cols.length - (intOf i).toNat)
      case atStart => exact ⟨0, Nat.zero_le _, rfl, ⟨fun t ht => absurd ht (Nat.not_lt_zero _)⟩, ⟨Below.refl _ _⟩, HHR⟩
      case round =>
        clear q4 c35 c36 HH
        obtain ⟨j, hj, rfl, HA2, HB2, HH2⟩ := hrel
        have q4 : wr.cell? ⟨w.heap.size, 4, none⟩ = some (.slice (some ⟨b, o, none⟩) m.groups.length cg) := blk_cell HH2.out 4
        have c35 := pw_cell_below HB2.out C35.out
        by_cases hjt : j < x.hd.cols.length
        · obtain ⟨b2, o2, ks, e2, hK, hcl, hmm⟩ := C_mid (Kd.C_below HC.out HB2.out) zCH j hjt (by decide)
          have hnx : SmallCol (x.hd.cols.getD j zCH) → AllC x.hd.cols (j + 1) := HA2.out.next
          generalize x.hd.cols.getD j zCH = y at *
          obtain ⟨rfl, hh⟩ := kCH_open hK
          rw [kCH_sz] at hmm hcl
          have HMZ := Aside0.mk (range_part (pre := []) (cs := zCells y.z) (post := hashCells y.h) hmm (o2 + j * 40) rfl)
          have HNX2 := Aside0.mk hnx
          have hb1 : y.z.f2.f2.size ≤ 9223372036854775807 ∨ True := .inr trivial
          cases e2
          clear hnx hK hcl hmm hh hb1
          by_cases t1 : (y.z.f2.f2.size : Int) > 60
          · go_wp2_with (first | (refine wpList_load_mid rfl 70 (.tmp 74) rfl b2 (o2 + j * 40) rfl (zCells y.z) _ HMZ.out Tryz.underlying70 rfl (by kernel_rfl) ?_) | (refine wpList_store_row rfl 70 (.tmp 5) (.tmp 75) rfl wr.heap.size ((zCells y.z).toArray) rfl rfl 70 _ (heap_alloc_new wr _) (by kernel_rfl) (by rfl) (z_all _) ?_; rw [World.setRow_alloc_new]; have hx := heap_alloc_new wr (.cells (zCells y.z).toArray 70); have hbr : Below wr.heap.size wr (wr.alloc (.cells (zCells y.z).toArray 70)) := below_alloc (Below.refl _ _) _; have HB6 := Aside0.mk (below_call HB2.out hbr); have HX6 := Aside0.mk ((hbr.block _ (blk_lt HH2.out)).trans HH2.out); clear q4 c35; generalize (wr.alloc (.cells (zCells y.z).toArray 70)) = W6 at *; have p4 : W6.cell? ⟨wr.heap.size, 4, none⟩ = some (.string y.z.f2.f2) := (blk_cell hx 4).trans rfl; have p7 : W6.cell? ⟨wr.heap.size, 7, none⟩ = some (.string y.z.f3.f2) := (blk_cell hx 7).trans rfl; clear hx hbr))
            go_ret
            exact ⟨true, rfl, (fun h => by cases h), below_call HBR.out HB6.out⟩
          by_cases t2 : (y.z.f3.f2.size : Int) > 60
          · go_wp2_with (first | (refine wpList_load_mid rfl 70 (.tmp 74) rfl b2 (o2 + j * 40) rfl (zCells y.z) _ HMZ.out Tryz.underlying70 rfl (by kernel_rfl) ?_) | (refine wpList_store_row rfl 70 (.tmp 5) (.tmp 75) rfl wr.heap.size ((zCells y.z).toArray) rfl rfl 70 _ (heap_alloc_new wr _) (by kernel_rfl) (by rfl) (z_all _) ?_; rw [World.setRow_alloc_new]; have hx := heap_alloc_new wr (.cells (zCells y.z).toArray 70); have hbr : Below wr.heap.size wr (wr.alloc (.cells (zCells y.z).toArray 70)) := below_alloc (Below.refl _ _) _; have HB6 := Aside0.mk (below_call HB2.out hbr); have HX6 := Aside0.mk ((hbr.block _ (blk_lt HH2.out)).trans HH2.out); clear q4 c35; generalize (wr.alloc (.cells (zCells y.z).toArray 70)) = W6 at *; have p4 : W6.cell? ⟨wr.heap.size, 4, none⟩ = some (.string y.z.f2.f2) := (blk_cell hx 4).trans rfl; have p7 : W6.cell? ⟨wr.heap.size, 7, none⟩ = some (.string y.z.f3.f2) := (blk_cell hx 7).trans rfl; clear hx hbr))
            go_ret
            exact ⟨true, rfl, (fun h => by cases h), below_call HBR.out HB6.out⟩
          go_wp2_with (first | (refine wpList_load_mid rfl 70 (.tmp 74) rfl b2 (o2 + j * 40) rfl (zCells y.z) _ HMZ.out Tryz.underlying70 rfl (by kernel_rfl) ?_) | (refine wpList_store_row rfl 70 (.tmp 5) (.tmp 75) rfl wr.heap.size ((zCells y.z).toArray) rfl rfl 70 _ (heap_alloc_new wr _) (by kernel_rfl) (by rfl) (z_all _) ?_; rw [World.setRow_alloc_new]; have hx := heap_alloc_new wr (.cells (zCells y.z).toArray 70); have hbr : Below wr.heap.size wr (wr.alloc (.cells (zCells y.z).toArray 70)) := below_alloc (Below.refl _ _) _; have HB6 := Aside0.mk (below_call HB2.out hbr); have HX6 := Aside0.mk ((hbr.block _ (blk_lt HH2.out)).trans HH2.out); clear q4 c35; generalize (wr.alloc (.cells (zCells y.z).toArray 70)) = W6 at *; have p4 : W6.cell? ⟨wr.heap.size, 4, none⟩ = some (.string y.z.f2.f2) := (blk_cell hx 4).trans rfl; have p7 : W6.cell? ⟨wr.heap.size, 7, none⟩ = some (.string y.z.f3.f2) := (blk_cell hx 7).trans rfl; clear hx hbr))
          go_roundw
          case rel => exact ⟨j + 1, by omega, by go_num, ⟨HNX2.out ⟨by omega, by omega⟩⟩, HB6, HX6⟩
          case measure => simp [intOf]; omega
        · obtain rfl : j = x.hd.cols.length := by omega
          have HS := Aside0.mk (HNX.out ⟨by omega, by omega, HA2.out⟩)
          have HBW := Aside0.mk (below_call HBR.out HB2.out)
          go_wp2
          go_roundw
          case rel => exact ⟨i + 1, by omega, by go_num, HS, HBW, HH2⟩
          case measure => simp [intOf]; omega
    · obtain rfl : i = m.groups.length := by omega
      have HS := Aside0.mk (show Small m from ⟨by omega, by omega, by omega, HLS.out.1, HLS.out.2, HA.out⟩)
      go_wp2
      go_ret
      exact ⟨false, rfl, (fun _ => HS.out), HB.out⟩
end Go.Proofs.YtjmhiklmlgbifaaGreatDoor.PMan
end
section
namespace Go.Proofs.YtjmhiklmlgbifaaGreatDoor.PMan
open Go.RowKit Go.Proofs.YtjmhiklmlgbifaaGreatDoorW.PrintWords Go.Proofs.YtjmhiklmlgbifaaGreatDoorW.PrintLast Go.Proofs.YtjmhiklmlgbifaaGreatDoorW.PrintMore
attribute [local go_sem] max2_int min2_int max_two min_two max_three min_three max_four min_four   -- for this text's walks alone
set_option linter.unusedVariables false
set_option linter.unusedSimpArgs false
def estreatref01_Fix.l0 : Nat → Int → Int → List Int → Int → Option (List Int)
  | 0, _, _, _, _ => none
  | k + 1, x0, x1, x5, x6 => if x6 < x1 then (if x6 < 8 then (if x5.length < 140737488355328 then (estreatref01_Fix.l0 k (IntKind.u64.wrap (Int.tdiv x0 256)) x1 (x5 ++ [(Int.tmod x0 256) % 256]) (wrap64 (x6 + 1))) else (none)) else (some x5)) else (some x5)
def estreatref01_Fix.f (k : Nat) (a0 : Int) (a1 : Int) : Option (List Int) := estreatref01_Fix.l0 k a0 a1 ([] : List Int) 0
theorem estreatref01_Fix.mono_l : ∀ k, (∀ y0 y1 y2 y3, LeO (estreatref01_Fix.l0 k y0 y1 y2 y3) (estreatref01_Fix.l0 (k + 1) y0 y1 y2 y3))
  | 0 => fun _ _ _ _ r h => by simp [estreatref01_Fix.l0] at h
  | k + 1 => by
    have ih0 := estreatref01_Fix.mono_l k
    · intro y0 y1 y2 y3
      unfold estreatref01_Fix.l0
      repeat' first
      | (with_reducible exact ih0 _ _ _ _)
      | (with_reducible exact LeO.refl _)
      | (with_reducible exact LeO.none _)
      | (with_reducible refine LeO.ite ?_ ?_)
      | (with_reducible refine LeO.bind ?_ (fun _ => ?_))
      | exact ih0 _ _ _ _
      | exact LeO.none _
      | refine LeO.ite ?_ ?_
      | refine LeO.bind ?_ (fun _ => ?_)
theorem estreatref01_Fix.mono : ∀ a0 a1 k, LeO (estreatref01_Fix.f k a0 a1) (estreatref01_Fix.f (k + 1) a0 a1) := by
  intro a0 a1 k
  have ih0 := estreatref01_Fix.mono_l k
  unfold estreatref01_Fix.f
  repeat' first
      | (with_reducible exact ih0 _ _ _ _)
      | (with_reducible exact LeO.refl _)
      | (with_reducible exact LeO.none _)
      | (with_reducible refine LeO.ite ?_ ?_)
      | (with_reducible refine LeO.bind ?_ (fun _ => ?_))
      | exact ih0 _ _ _ _
      | exact LeO.none _
      | refine LeO.ite ?_ ?_
      | refine LeO.bind ?_ (fun _ => ?_)
set_option maxHeartbeats 8000000 in
set_option maxRecDepth 100000 in
theorem estreatref01_Fix.calls (k : Nat) (a0 : Int) (a1 : Int) (r : List Int) (w : World) (h : estreatref01_Fix.f k a0 a1 = some r) :
    Calls Tryz.prog 76 #[.int .u64 a0, .int .i64 a1] w fun e w' => ∃ v0_ : Value, e = .returned (v0_) ∧ Kd.R (Kd.int .u8) 5 w' w.heap.size (fun _ => True) v0_ r ∧ Below w.heap.size w w' := by
  have HB := Aside0.mk (Below.refl w.heap.size w)
  have H : (estreatref01_Fix.l0 k a0 a1 ([] : List Int) 0) = some r := h
  clear h
  have H' := Aside0.mk H
  clear H
  go_enter Tryz.func76, Tryz.ntmps76
  go_wp2
  go_loopg [0, 5, 6] k (fun kq v0 v5 v6 w' => ∃ (x0_1 : Int) (x5_1 : List Int) (x6_1 : Int), v0 = .int .u64 x0_1 ∧ v6 = .int .i64 x6_1 ∧ Aside0 (estreatref01_Fix.l0 kq x0_1 a1 x5_1 x6_1 = some r) ∧ Aside0 (kq ≤ k) ∧ Aside0 (Kd.R (Kd.int .u8) 5 w' w.heap.size (fun _ => True) v5 x5_1) ∧ Aside0 (Below w.heap.size w w'))
  case atStart => exact ⟨(a0), (([] : List Int)), (0), (by first | rfl | (simp; done) | (simp [*]; done)), (by first | rfl | (simp; done) | (simp [*]; done)), H', ⟨Nat.le_refl _⟩, ⟨by first | exact Kd.R_nil _ _ _ _ _ | exact Kd.N_nil _ _ _ _ _ | exact Kd.V_nil _ _ _ _ _ | exact Kd.Q_nil _ _ _ _ _ | exact Kd.S_nil _ _ _ _ _⟩, ⟨by repeat (first | (with_reducible first | exact HB.out | apply below_alloc | apply pw_below_drewN | apply below_drew1) | exact HB.out)⟩⟩
  case round =>
    clear H'
    try clear p2
    obtain ⟨x0_1, x5_1, x6_1, rfl, rfl, HA, HK1, HO_5, HB⟩ := hrel
    cases gk with
    | zero => exact absurd HA.out (by simp [estreatref01_Fix.l0])
    | succ k1 =>
      have H := HA.out
      clear HA
      simp only [estreatref01_Fix.l0] at H
      by_cases c3 : x6_1 < a1
      · rw [if_pos c3] at H
        have c3b0 : decide (x6_1 < a1) = true := decide_eq_true c3
        clear c3
        by_cases c4 : x6_1 < 8
        · rw [if_pos c4] at H
          have c4b0 : decide (x6_1 < 8) = true := decide_eq_true c4
          clear c4
          by_cases c5 : x5_1.length < 140737488355328
          · rw [if_pos c5] at H
            have LMc5 := Aside0.mk c5
            clear c5
            obtain ⟨y255, hy255⟩ : ∃ y_ : List Int, y_ = (x5_1 ++ [(Int.tmod x0_1 256) % 256]) := ⟨_, rfl⟩
            replace H : (estreatref01_Fix.l0 k1 (IntKind.u64.wrap (Int.tdiv x0_1 256)) a1 y255 (wrap64 (x6_1 + 1))) = some r := by first | (rw [hy255]; with_reducible exact H) | (have H2_ := (Option.bind_some _ _).symm.trans H; rw [hy255]; with_reducible exact H2_) | (have H2_ := (Option.bind_some _ _).symm.trans H; with_reducible exact H2_) | with_reducible exact H | (rw [hy255]; exact H) | exact H
            have Ny255 := Aside0.mk hy255
            clear hy255
            have H' := Aside0.mk H
            clear H
            go_wp2_with (first | ((with_reducible refine gate_builtin (b := .append) (xs := #[.tmp 16, .tmp 20]) rfl ?_); at_builtin; refine Kd.R_append (Kd.int .u8) (w0 := w) w.heap.size rfl (.tmp 16) (.tmp 20) 30 5 (.int .u8 0) 1 rfl Tryz.underlying30 info5 rfl (by decide) (by omega) u5 x5_1 ((Int.tmod x0_1 256) % 256) [.int .u8 ((Int.tmod x0_1 256) % 256)] (fun _ => True) (fun _ => False) rfl rfl ?aP (fun _ hk => hk.elim) ?aF ?aO ?aB ?aS ?aL ?_; (case aP => exact rfl); (case aB => exact (by repeat (first | (with_reducible first | exact HB.out | apply below_alloc | apply pw_below_drewN | apply below_drew1) | exact HB.out))); (case aF => exact (fun _ _ => trivial)); (case aO => exact (by (with_reducible repeat (first | apply Kd.R_alloc | apply Kd.R_drewN | apply Kd.R_drew)); exact HO_5.out)); (case aS => exact (below_size (by repeat (first | (with_reducible first | exact HB.out | apply below_alloc | apply pw_below_drewN | apply below_drew1) | exact HB.out)))); (case aL => have := LMc5.out; omega); intro v256 w6 ho hb hg hat; rw [← Ny255.out] at ho; have n0_ := Aside0.mk (hb); have n1_ := Aside0.mk (ho); clear HB; clear HO_5; have HB := n0_; have HO257 := n1_; clear n0_ n1_; clear ho hb hg hat))
            go_roundg k1
            case measure => have := HK1.out; omega
            case rel => exact ⟨(IntKind.u64.wrap (Int.tdiv x0_1 256)), (y255), (wrap64 (x6_1 + 1)), (by first | rfl | (simp; done) | (simp [*]; done)), (by first | rfl | (simp; done) | (simp [*]; done)), H', ⟨by have := HK1.out; omega⟩, ⟨by (with_reducible repeat (first | apply Kd.R_alloc | apply Kd.R_drewN | apply Kd.R_drew)); exact HO257.out⟩, ⟨by repeat (first | (with_reducible first | exact HB.out | apply below_alloc | apply pw_below_drewN | apply below_drew1) | exact HB.out)⟩⟩
          · rw [if_neg c5] at H
            exact absurd H (by simp)
        · rw [if_neg c4] at H
          have c4b0 : decide (x6_1 < 8) = false := decide_eq_false c4
          clear c4
          obtain rfl := Option.some.inj H
          go_wp2
          go_ret
          exact ⟨_, by first | rfl | (simp [errW_none, errW_some] <;> rfl) | (simp [*, errW_none, errW_some] <;> rfl), by (with_reducible repeat (first | apply Kd.R_alloc | apply Kd.R_drewN | apply Kd.R_drew)); exact HO_5.out, by repeat (first | (with_reducible first | exact HB.out | apply below_alloc | apply pw_below_drewN | apply below_drew1) | exact HB.out)⟩
      · rw [if_neg c3] at H
        have c3b0 : decide (x6_1 < a1) = false := decide_eq_false c3
        clear c3
        obtain rfl := Option.some.inj H
        go_wp2
        go_ret
        exact ⟨_, by first | rfl | (simp [errW_none, errW_some] <;> rfl) | (simp [*, errW_none, errW_some] <;> rfl), by (with_reducible repeat (first | apply Kd.R_alloc | apply Kd.R_drewN | apply Kd.R_drew)); exact HO_5.out, by repeat (first | (with_reducible first | exact HB.out | apply below_alloc | apply pw_below_drewN | apply below_drew1) | exact HB.out)⟩
def estreatref03_take.f (a0 : Int) (a1 : Int) : Option (Int) := if (Int.tmod a0 2) = a1 then (some ((Int.tdiv a0 2) % 4294967296)) else (some (Go.bits .xor .u32 ((Int.tdiv a0 2) % 4294967296) 3988292384))
set_option maxHeartbeats 8000000 in
set_option maxRecDepth 100000 in
theorem estreatref03_take.calls (a0 : Int) (a1 : Int) (r : Int) (w : World) (h : estreatref03_take.f a0 a1 = some r) :
    Calls Tryz.prog 112 #[.int .u32 a0, .int .u32 a1] w fun e w' => e = .returned (.int .u32 r) ∧ Drawn0 w w' := by
  have H : (if (Int.tmod a0 2) = a1 then (some ((Int.tdiv a0 2) % 4294967296)) else (some (Go.bits .xor .u32 ((Int.tdiv a0 2) % 4294967296) 3988292384))) = some r := h
  clear h
  by_cases c3 : (Int.tmod a0 2) = a1
  · rw [if_pos c3] at H
    have c3b0 : ((Int.tmod a0 2) == a1) = true := beq_iff_eq.mpr c3
    have c3b1 : ((Int.tmod a0 2) != a1) = false := bne_eq_false_iff_eq.mpr c3
    clear c3
    obtain rfl := Option.some.inj H
    go_enter Tryz.func112, Tryz.ntmps112
    go_wp2
    go_ret
    exact ⟨by first | rfl | (simp; done) | (simp [*]; done), by repeat (first | exact Drawn0.refl _ | apply Drawn0.step)⟩
  · rw [if_neg c3] at H
    have c3b0 : ((Int.tmod a0 2) == a1) = false := beq_eq_false_iff_ne.mpr c3
    have c3b1 : ((Int.tmod a0 2) != a1) = true := bne_iff_ne.mpr c3
    obtain rfl := Option.some.inj H
    go_enter Tryz.func112, Tryz.ntmps112
    go_wp2
    go_ret
    exact ⟨by first | rfl | (simp; done) | (simp [*]; done), by repeat (first | exact Drawn0.refl _ | apply Drawn0.step)⟩
mutual
def estreatref03_More.l0 : Nat → List Int → Int → Int → Option (Int)
  | 0, _, _, _ => none
  | k + 1, x1, x5, x6 => if x6 < (x1.length : Int) then (if 0 ≤ x6 then (estreatref03_More.l1 k x1 x5 x6 ((rd x1 x6) % 4294967296) 0) else (none)) else (some ((4294967295 - x5) % 4294967296))
def estreatref03_More.l1 : Nat → List Int → Int → Int → Int → Int → Option (Int)
  | 0, _, _, _, _, _ => none
  | k + 1, x1, x5, x6, x7, x8 => if x8 < 8 then ((estreatref03_take.f x5 (Int.tmod x7 2)).bind fun t259 => (estreatref03_More.l1 k x1 t259 x6 ((Int.tdiv x7 2) % 4294967296) (wrap64 (x8 + 1)))) else (estreatref03_More.l0 k x1 x5 (wrap64 (x6 + 1)))
end
def estreatref03_More.f (k : Nat) (a0 : Int) (l1 : List Int) : Option (Int) := estreatref03_More.l0 k l1 ((4294967295 - a0) % 4294967296) 0
theorem estreatref03_More.mono_l : ∀ k, (∀ y0 y1 y2, LeO (estreatref03_More.l0 k y0 y1 y2) (estreatref03_More.l0 (k + 1) y0 y1 y2)) ∧ (∀ y0 y1 y2 y3 y4, LeO (estreatref03_More.l1 k y0 y1 y2 y3 y4) (estreatref03_More.l1 (k + 1) y0 y1 y2 y3 y4))
  | 0 => ⟨fun _ _ _ r h => by simp [estreatref03_More.l0] at h, fun _ _ _ _ _ r h => by simp [estreatref03_More.l1] at h⟩
  | k + 1 => by
    obtain ⟨ih0, ih1⟩ := estreatref03_More.mono_l k
    refine ⟨?_, ?_⟩
    · intro y0 y1 y2
      unfold estreatref03_More.l0
      repeat' first
      | (with_reducible exact ih0 _ _ _)
      | (with_reducible exact ih1 _ _ _ _ _)
      | (with_reducible exact LeO.refl _)
      | (with_reducible exact LeO.none _)
      | (with_reducible refine LeO.ite ?_ ?_)
      | (with_reducible refine LeO.bind ?_ (fun _ => ?_))
      | exact ih0 _ _ _
      | exact ih1 _ _ _ _ _
      | exact LeO.none _
      | refine LeO.ite ?_ ?_
      | refine LeO.bind ?_ (fun _ => ?_)
    · intro y0 y1 y2 y3 y4
      unfold estreatref03_More.l1
      repeat' first
      | (with_reducible exact ih0 _ _ _)
      | (with_reducible exact ih1 _ _ _ _ _)
      | (with_reducible exact LeO.refl _)
      | (with_reducible exact LeO.none _)
      | (with_reducible refine LeO.ite ?_ ?_)
      | (with_reducible refine LeO.bind ?_ (fun _ => ?_))
      | exact ih0 _ _ _
      | exact ih1 _ _ _ _ _
      | exact LeO.none _
      | refine LeO.ite ?_ ?_
      | refine LeO.bind ?_ (fun _ => ?_)
theorem estreatref03_More.mono : ∀ a0 a1 k, LeO (estreatref03_More.f k a0 a1) (estreatref03_More.f (k + 1) a0 a1) := by
  intro a0 a1 k
  obtain ⟨ih0, ih1⟩ := estreatref03_More.mono_l k
  unfold estreatref03_More.f
  repeat' first
      | (with_reducible exact ih0 _ _ _)
      | (with_reducible exact ih1 _ _ _ _ _)
      | (with_reducible exact LeO.refl _)
      | (with_reducible exact LeO.none _)
      | (with_reducible refine LeO.ite ?_ ?_)
      | (with_reducible refine LeO.bind ?_ (fun _ => ?_))
      | exact ih0 _ _ _
      | exact ih1 _ _ _ _ _
      | exact LeO.none _
      | refine LeO.ite ?_ ?_
      | refine LeO.bind ?_ (fun _ => ?_)
set_option maxHeartbeats 8000000 in
set_option maxRecDepth 100000 in
theorem estreatref03_More.calls (k : Nat) (a0 : Int) (A1 : Option Addr) (c1 : Nat) (l1 : List Int) (r : Int) (w : World) (hr1 : Kd.C (Kd.int .u8) w A1 l1.length l1) (hc1 : l1.length ≤ c1) (h : estreatref03_More.f k a0 l1 = some r) :
    Calls Tryz.prog 77 #[.int .u32 a0, .slice A1 l1.length c1] w fun e w' => e = .returned (.int .u32 r) ∧ Drawn0 w w' := by
  have HR1 := Aside0.mk hr1
  have HC1 := Aside0.mk hc1
  clear hr1 hc1
  have H : (estreatref03_More.l0 k l1 ((4294967295 - a0) % 4294967296) 0) = some r := h
  clear h
  have H' := Aside0.mk H
  clear H
  go_enter Tryz.func77, Tryz.ntmps77
  go_wp2
  go_loopg [5, 6] k (fun kq v5 v6 w' => ∃ (x5_1 : Int) (x6_1 : Int), v5 = .int .u32 x5_1 ∧ v6 = .int .i64 x6_1 ∧ Aside0 (estreatref03_More.l0 kq l1 x5_1 x6_1 = some r) ∧ Aside0 (kq ≤ k) ∧ Drawn0 w w')
  case atStart => exact ⟨((4294967295 - a0) % 4294967296), (0), (by first | rfl | (simp; done) | (simp [*]; done)), (by first | rfl | (simp; done) | (simp [*]; done)), H', ⟨Nat.le_refl _⟩, by repeat (first | exact Drawn0.refl _ | apply Drawn0.step)⟩
  case round =>
    clear H'
    try clear c1
    try clear p2
    obtain ⟨x5_1, x6_1, rfl, rfl, HA, HK1, ⟨m1, rfl⟩⟩ := hrel
    cases gk with
    | zero => exact absurd HA.out (by simp [estreatref03_More.l0])
    | succ k1 =>
      have H := HA.out
      clear HA
      simp only [estreatref03_More.l0] at H
      by_cases c3 : x6_1 < (l1.length : Int)
      · rw [if_pos c3] at H
        have c3b0 : decide (x6_1 < (l1.length : Int)) = true := decide_eq_true c3
        clear c3
        by_cases c4 : 0 ≤ x6_1
        · rw [if_pos c4] at H
          have c4b0 : decide (0 ≤ x6_1) = true := decide_eq_true c4
          clear c4
          have H' := Aside0.mk H
          clear H
          have p258 : 0 ≤ (x6_1 : Int) := of_decide_eq_true (by first | (with_reducible assumption) | assumption)
          have q258 : x6_1 < (l1.length : Int) := of_decide_eq_true (by first | (with_reducible assumption) | assumption)
          obtain ⟨ad258, e258, hx258_0⟩ := Kd.at_int HR1.out x6_1 p258 q258
          cases e258
          replace p258 := eq_true p258
          replace q258 := eq_true q258
          go_wp2
          go_loopg [5, 7, 8] k1 (fun kq v5 v7 v8 w' => ∃ (x5_2 : Int) (x7_2 : Int) (x8_2 : Int), v5 = .int .u32 x5_2 ∧ v7 = .int .u32 x7_2 ∧ v8 = .int .i64 x8_2 ∧ Aside0 (estreatref03_More.l1 kq l1 x5_2 x6_1 x7_2 x8_2 = some r) ∧ Aside0 (kq ≤ k1) ∧ Drawn0 w w')
          case atStart => exact ⟨(x5_1), ((rd l1 x6_1) % 4294967296), (0), (by first | rfl | (simp; done) | (simp [*]; done)), (by first | rfl | (simp; done) | (simp [*]; done)), (by first | rfl | (simp; done) | (simp [*]; done)), H', ⟨Nat.le_refl _⟩, by repeat (first | exact Drawn0.refl _ | apply Drawn0.step)⟩
          case round =>
            clear H'
            try clear c1
            try clear p2
            try clear q2
            try clear hx2
            try clear c3
            try clear c3b0
            try clear c4
            try clear c4b0
            try clear hx258_0
            try clear p2
            try clear p258
            try clear q258
            obtain ⟨x5_2, x7_2, x8_2, rfl, rfl, rfl, HA, HK2, ⟨m2, rfl⟩⟩ := hrel
            cases gk with
            | zero => exact absurd HA.out (by simp [estreatref03_More.l1])
            | succ k2 =>
              have H := HA.out
              clear HA
              simp only [estreatref03_More.l1] at H
              by_cases c5 : x8_2 < 8
              · rw [if_pos c5] at H
                have c5b0 : decide (x8_2 < 8) = true := decide_eq_true c5
                clear c5
                replace H := Option.bind_eq_some_iff.mp H
                obtain ⟨t259, A60, H⟩ := H
                replace H : (estreatref03_More.l1 k2 l1 t259 x6_1 ((Int.tdiv x7_2 2) % 4294967296) (wrap64 (x8_2 + 1))) = some r := H
                have A6 := Aside0.mk A60
                clear A60
                have H' := Aside0.mk H
                clear H
                go_wp2_with (first | ((with_reducible refine gate_callee (f := 112) rfl ?_); refine goesL_ (some 29) rfl rfl Tryz.func112 (by kernel_rfl) rfl #[.int .u32 x5_2, .int .u32 (Int.tmod x7_2 2)] rfl (by (try simp only [List.map_toArray, List.map_cons, List.map_nil]); first | done | rfl | (simp only [List.length_drop, List.length_take]; rfl)) ?_; (with_reducible refine (estreatref03_take.calls x5_2 (Int.tmod x7_2 2) t259 _ A6.out).mono ?_); rintro e w' ⟨rfl, ⟨nd, rfl⟩⟩; refine ⟨_, rfl, ?_⟩))
                go_roundg k2
                case measure => have := HK1.out; have := HK2.out; omega
                case rel => exact ⟨(t259), ((Int.tdiv x7_2 2) % 4294967296), (wrap64 (x8_2 + 1)), (by first | rfl | (simp; done) | (simp [*]; done)), (by first | rfl | (simp; done) | (simp [*]; done)), (by first | rfl | (simp; done) | (simp [*]; done)), H', ⟨by have := HK1.out; have := HK2.out; omega⟩, by repeat (first | exact Drawn0.refl _ | apply Drawn0.step)⟩
              · rw [if_neg c5] at H
                have c5b0 : decide (x8_2 < 8) = false := decide_eq_false c5
                clear c5
                have H' := Aside0.mk H
                clear H
                go_wp2
                go_roundg k2
                case measure => have := HK1.out; have := HK2.out; omega
                case rel => exact ⟨(x5_2), (wrap64 (x6_1 + 1)), (by first | rfl | (simp; done) | (simp [*]; done)), (by first | rfl | (simp; done) | (simp [*]; done)), H', ⟨by have := HK1.out; have := HK2.out; omega⟩, by repeat (first | exact Drawn0.refl _ | apply Drawn0.step)⟩
        · rw [if_neg c4] at H
          exact absurd H (by simp)
      · rw [if_neg c3] at H
        have c3b0 : decide (x6_1 < (l1.length : Int)) = false := decide_eq_false c3
        clear c3
        obtain rfl := Option.some.inj H
        go_wp2
        go_ret
        exact ⟨by first | rfl | (simp; done) | (simp [*]; done), by repeat (first | exact Drawn0.refl _ | apply Drawn0.step)⟩
def estreatref04_Put.f (k : Nat) (l0 : List Int) : Option (List Int) := (estreatref01_Fix.f k (IntKind.u64.wrap ((l0.length : Int))) 4).bind fun t260 => ((some (([] : List Int) : List Int)).bind fun y263 => (if y263.length + t260.length < 140737488355328 then ((some (y263 ++ t260 : List Int)).bind fun y266 => (if y266.length + l0.length < 140737488355328 then ((estreatref03_More.f k 0 (y266 ++ l0)).bind fun t272 => ((estreatref01_Fix.f k (IntKind.u64.wrap (t272)) 4).bind fun t273 => (if t260.length + t273.length < 140737488355328 then ((some (t260 ++ t273 : List Int)).bind fun y276 => (if y276.length + l0.length < 140737488355328 then (some (y276 ++ l0)) else (none))) else (none)))) else (none))) else (none)))
theorem estreatref04_Put.mono : ∀ a0 k, LeO (estreatref04_Put.f k a0) (estreatref04_Put.f (k + 1) a0) := by
  intro a0 k
  unfold estreatref04_Put.f
  repeat' first
      | (with_reducible exact estreatref01_Fix.mono _ _ _)
      | (with_reducible exact estreatref03_More.mono _ _ _)
      | (with_reducible exact LeO.refl _)
      | (with_reducible exact LeO.none _)
      | (with_reducible refine LeO.ite ?_ ?_)
      | (with_reducible refine LeO.bind ?_ (fun _ => ?_))
      | exact estreatref01_Fix.mono _ _ _
      | exact estreatref03_More.mono _ _ _
      | exact LeO.none _
      | refine LeO.ite ?_ ?_
      | refine LeO.bind ?_ (fun _ => ?_)
set_option maxHeartbeats 8000000 in
set_option maxRecDepth 100000 in
theorem estreatref04_Put.calls (k : Nat) (A0 : Option Addr) (c0 : Nat) (l0 : List Int) (r : List Int) (w : World) (hr0 : Kd.C (Kd.int .u8) w A0 l0.length l0) (hc0 : l0.length ≤ c0) (h : estreatref04_Put.f k l0 = some r) :
    Calls Tryz.prog 42 #[.slice A0 l0.length c0] w fun e w' => ∃ v0_ : Value, e = .returned (v0_) ∧ Kd.R (Kd.int .u8) 5 w' w.heap.size (fun _ => True) v0_ r ∧ Below w.heap.size w w' := by
  have HR0 := Aside0.mk hr0
  have HC0 := Aside0.mk hc0
  clear hr0 hc0
  have HB := Aside0.mk (Below.refl w.heap.size w)
  have H : ((estreatref01_Fix.f k (IntKind.u64.wrap ((l0.length : Int))) 4).bind fun t260 => ((some (([] : List Int) : List Int)).bind fun y263 => (if y263.length + t260.length < 140737488355328 then ((some (y263 ++ t260 : List Int)).bind fun y266 => (if y266.length + l0.length < 140737488355328 then ((estreatref03_More.f k 0 (y266 ++ l0)).bind fun t272 => ((estreatref01_Fix.f k (IntKind.u64.wrap (t272)) 4).bind fun t273 => (if t260.length + t273.length < 140737488355328 then ((some (t260 ++ t273 : List Int)).bind fun y276 => (if y276.length + l0.length < 140737488355328 then (some (y276 ++ l0)) else (none))) else (none)))) else (none))) else (none)))) = some r := h
  clear h
  replace H := Option.bind_eq_some_iff.mp H
  obtain ⟨t260, A20, H⟩ := H
  replace H : ((some (([] : List Int) : List Int)).bind fun y263 => (if y263.length + t260.length < 140737488355328 then ((some (y263 ++ t260 : List Int)).bind fun y266 => (if y266.length + l0.length < 140737488355328 then ((estreatref03_More.f k 0 (y266 ++ l0)).bind fun t272 => ((estreatref01_Fix.f k (IntKind.u64.wrap (t272)) 4).bind fun t273 => (if t260.length + t273.length < 140737488355328 then ((some (t260 ++ t273 : List Int)).bind fun y276 => (if y276.length + l0.length < 140737488355328 then (some (y276 ++ l0)) else (none))) else (none)))) else (none))) else (none))) = some r := H
  have A2 := Aside0.mk A20
  clear A20
  obtain ⟨y263, hy263⟩ : ∃ y_ : List Int, y_ = (([] : List Int)) := ⟨_, rfl⟩
  replace H : (if y263.length + t260.length < 140737488355328 then ((some (y263 ++ t260 : List Int)).bind fun y266 => (if y266.length + l0.length < 140737488355328 then ((estreatref03_More.f k 0 (y266 ++ l0)).bind fun t272 => ((estreatref01_Fix.f k (IntKind.u64.wrap (t272)) 4).bind fun t273 => (if t260.length + t273.length < 140737488355328 then ((some (t260 ++ t273 : List Int)).bind fun y276 => (if y276.length + l0.length < 140737488355328 then (some (y276 ++ l0)) else (none))) else (none)))) else (none))) else (none)) = some r := by first | (rw [hy263]; with_reducible exact H) | (have H2_ := (Option.bind_some _ _).symm.trans H; rw [hy263]; with_reducible exact H2_) | (have H2_ := (Option.bind_some _ _).symm.trans H; with_reducible exact H2_) | with_reducible exact H | (rw [hy263]; exact H) | exact H
  have Ny263 := Aside0.mk hy263
  clear hy263
  by_cases c3 : y263.length + t260.length < 140737488355328
  · rw [if_pos c3] at H
    have LMc3 := Aside0.mk c3
    clear c3
    obtain ⟨y266, hy266⟩ : ∃ y_ : List Int, y_ = (y263 ++ t260) := ⟨_, rfl⟩
    replace H : (if y266.length + l0.length < 140737488355328 then ((estreatref03_More.f k 0 (y266 ++ l0)).bind fun t272 => ((estreatref01_Fix.f k (IntKind.u64.wrap (t272)) 4).bind fun t273 => (if t260.length + t273.length < 140737488355328 then ((some (t260 ++ t273 : List Int)).bind fun y276 => (if y276.length + l0.length < 140737488355328 then (some (y276 ++ l0)) else (none))) else (none)))) else (none)) = some r := by first | (rw [hy266]; with_reducible exact H) | (have H2_ := (Option.bind_some _ _).symm.trans H; rw [hy266]; with_reducible exact H2_) | (have H2_ := (Option.bind_some _ _).symm.trans H; with_reducible exact H2_) | with_reducible exact H | (rw [hy266]; exact H) | exact H
    have Ny266 := Aside0.mk hy266
    clear hy266
    by_cases c4 : y266.length + l0.length < 140737488355328
    · rw [if_pos c4] at H
      have LMc4 := Aside0.mk c4
      clear c4
      obtain ⟨y269, hy269⟩ : ∃ y_ : List Int, y_ = (y266 ++ l0) := ⟨_, rfl⟩
      replace H : ((estreatref03_More.f k 0 y269).bind fun t272 => ((estreatref01_Fix.f k (IntKind.u64.wrap (t272)) 4).bind fun t273 => (if t260.length + t273.length < 140737488355328 then ((some (t260 ++ t273 : List Int)).bind fun y276 => (if y276.length + l0.length < 140737488355328 then (some (y276 ++ l0)) else (none))) else (none)))) = some r := by first | (rw [hy269]; with_reducible exact H) | (have H2_ := (Option.bind_some _ _).symm.trans H; rw [hy269]; with_reducible exact H2_) | (have H2_ := (Option.bind_some _ _).symm.trans H; with_reducible exact H2_) | with_reducible exact H | (rw [hy269]; exact H) | exact H
      have Ny269 := Aside0.mk hy269
      clear hy269
      replace H := Option.bind_eq_some_iff.mp H
      obtain ⟨t272, A50, H⟩ := H
      replace H : ((estreatref01_Fix.f k (IntKind.u64.wrap (t272)) 4).bind fun t273 => (if t260.length + t273.length < 140737488355328 then ((some (t260 ++ t273 : List Int)).bind fun y276 => (if y276.length + l0.length < 140737488355328 then (some (y276 ++ l0)) else (none))) else (none))) = some r := H
      have A5 := Aside0.mk A50
      clear A50
      replace H := Option.bind_eq_some_iff.mp H
      obtain ⟨t273, A60, H⟩ := H
      replace H : (if t260.length + t273.length < 140737488355328 then ((some (t260 ++ t273 : List Int)).bind fun y276 => (if y276.length + l0.length < 140737488355328 then (some (y276 ++ l0)) else (none))) else (none)) = some r := H
      have A6 := Aside0.mk A60
      clear A60
      by_cases c7 : t260.length + t273.length < 140737488355328
      · rw [if_pos c7] at H
        have LMc7 := Aside0.mk c7
        clear c7
        obtain ⟨y276, hy276⟩ : ∃ y_ : List Int, y_ = (t260 ++ t273) := ⟨_, rfl⟩
        replace H : (if y276.length + l0.length < 140737488355328 then (some (y276 ++ l0)) else (none)) = some r := by first | (rw [hy276]; with_reducible exact H) | (have H2_ := (Option.bind_some _ _).symm.trans H; rw [hy276]; with_reducible exact H2_) | (have H2_ := (Option.bind_some _ _).symm.trans H; with_reducible exact H2_) | with_reducible exact H | (rw [hy276]; exact H) | exact H
        have Ny276 := Aside0.mk hy276
        clear hy276
        by_cases c8 : y276.length + l0.length < 140737488355328
        · rw [if_pos c8] at H
          have LMc8 := Aside0.mk c8
          clear c8
          obtain ⟨y279, hy279⟩ : ∃ y_ : List Int, y_ = (y276 ++ l0) := ⟨_, rfl⟩
          replace H : (some y279) = some r := by first | (rw [hy279]; with_reducible exact H) | (have H2_ := (Option.bind_some _ _).symm.trans H; rw [hy279]; with_reducible exact H2_) | (have H2_ := (Option.bind_some _ _).symm.trans H; with_reducible exact H2_) | with_reducible exact H | (rw [hy279]; exact H) | exact H
          have Ny279 := Aside0.mk hy279
          clear hy279
          obtain rfl := Option.some.inj H
          go_enter Tryz.func42, Tryz.ntmps42
          go_wp2_with (first | ((with_reducible refine gate_callee (f := 76) rfl ?_); refine goesL_ (some 8) rfl rfl Tryz.func76 (by kernel_rfl) rfl #[.int .u64 (IntKind.u64.wrap ((l0.length : Int))), .int .i64 4] rfl (by (try simp only [List.map_toArray, List.map_cons, List.map_nil]); first | done | rfl | (simp only [List.length_drop, List.length_take]; rfl)) ?_; (with_reducible refine (estreatref01_Fix.calls k (IntKind.u64.wrap ((l0.length : Int))) 4 t260 _ A2.out).mono ?_); rintro e w9 ⟨v261, rfl, ho0, hb⟩; refine ⟨_, rfl, ?_⟩; have n0_ := Aside0.mk (Kd.R_lower ho0 (below_size (by repeat (first | (with_reducible first | exact HB.out | apply below_alloc | apply pw_below_drewN | apply below_drew1) | exact HB.out)))); have n1_ := Aside0.mk (below_step (by repeat (first | (with_reducible first | exact HB.out | apply below_alloc | apply pw_below_drewN | apply below_drew1) | exact HB.out)) hb); clear HB; have HO262 := n0_; have HB := n1_; clear n0_ n1_; (try clear hb); (try clear hb2); (try clear hk); (try clear hi); (try clear ho0)) | ((with_reducible refine gate_dst (N := 9) rfl ?_); refine Kd.R_lit (Kd.int .u8) _ 5 ?hg (N := 9) ?hd (xs := ([] : List Int)) (inner := []) (ok := fun _ => True) (okp := fun _ => True) ?hr ?hp (fun _ hk => hk) trivial (Below.refl _ _) (Nat.le_refl _) (by simp) ?_; (case hd => rfl); (case hg => rfl); (case hr => first | (go_simp; done) | (go_simp; rfl)); (case hp => exact (Reps.none _ _)); intro v264 w10 ho11 hb hg_ hnew_; clear hg_ hnew_; (first | rw [← Ny263.out] at ho11 | (simp only [Int.reduceToNat] at ho11; rw [← Ny263.out] at ho11)); have n0_ := Aside0.mk (Kd.R_elder' (by (with_reducible repeat (first | apply Kd.R_alloc | apply Kd.R_drewN | apply Kd.R_drew)); exact HO262.out) (Kd.R_base ho11) hb); have n1_ := Aside0.mk (Kd.R_lower (Kd.R_new' ho11 (Kd.R_lt (by (with_reducible repeat (first | apply Kd.R_alloc | apply Kd.R_drewN | apply Kd.R_drew)); exact HO262.out))) (below_size (by repeat (first | (with_reducible first | exact HB.out | apply below_alloc | apply pw_below_drewN | apply below_drew1) | exact HB.out)))); have n2_ := Aside0.mk (below_step (by repeat (first | (with_reducible first | exact HB.out | apply below_alloc | apply pw_below_drewN | apply below_drew1) | exact HB.out)) hb); clear HO262; clear HB; have HO262 := n0_; have HO265 := n1_; have HB := n2_; clear n0_ n1_ n2_; clear hb ho11; obtain ⟨Ao13, co13, eo13⟩ := Kd.R_slice HO262.out; subst eo13) | ((with_reducible refine gate_builtin (b := .append) (xs := #[.tmp 9, .tmp 10]) rfl ?_); at_builtin; refine Kd.R_append_rows (Kd.int .u8) (w0 := w) w.heap.size rfl (.tmp 9) (.tmp 10) 30 5 (.int .u8 0) 1 rfl Tryz.underlying30 info5 rfl (by decide) (by omega) v264 y263 t260 _ _ _ (fun k_ => some k_ ≠ (.slice Ao13 t260.length co13 : Value).ownBlock) (fun _ => False) rfl rfl ?aO ?aR (fun _ _ h => h) (fun _ h => h.elim) ?aF ?aB ?aS ?aL ?_; (case aR => repeat (first | exact (Kd.R_reads' HO262.out).2.2 | (with_reducible refine Kd.C_alloc ?_ _) | (with_reducible refine Kd.C_drewN ?_ _) | (with_reducible refine Kd.C_drew ?_))); (case aB => exact (by repeat (first | (with_reducible first | exact HB.out | apply below_alloc | apply pw_below_drewN | apply below_drew1) | exact HB.out))); (case aF => exact (fun k_ hk => Kd.fresh' (Kd.R_lt (by (with_reducible repeat (first | apply Kd.R_alloc | apply Kd.R_drewN | apply Kd.R_drew)); exact HO262.out)) k_ hk)); (case aO => exact (by (with_reducible repeat (first | apply Kd.R_alloc | apply Kd.R_drewN | apply Kd.R_drew)); exact Kd.R_mono HO265.out (fun _ hk => hk.2))); (case aS => exact (below_size (by repeat (first | (with_reducible first | exact HB.out | apply below_alloc | apply pw_below_drewN | apply below_drew1) | exact HB.out)))); (case aL => have := LMc3.out; omega); intro v267 w12 ho hb hg hat; rw [← Ny266.out] at ho; have n0_ := Aside0.mk (Kd.R_after (ok := (fun _ => True)) (by (with_reducible repeat (first | apply Kd.R_alloc | apply Kd.R_drewN | apply Kd.R_drew)); exact HO262.out) hg hat); have n1_ := Aside0.mk (hb); have n2_ := Aside0.mk (ho); clear HO262; clear HB; clear HO265; have HO262 := n0_; have HB := n1_; have HO268 := n2_; clear n0_ n1_ n2_; clear ho hb hg hat) | ((with_reducible refine gate_builtin (b := .append) (xs := #[.tmp 11, .tmp 12]) rfl ?_); at_builtin; refine Kd.R_append_rows (Kd.int .u8) (w0 := w) w.heap.size rfl (.tmp 11) (.tmp 12) 30 5 (.int .u8 0) 1 rfl Tryz.underlying30 info5 rfl (by decide) (by omega) v267 y266 l0 _ _ _ (fun k_ => some k_ ≠ (.slice Ao13 t260.length co13 : Value).ownBlock) (fun _ => False) rfl rfl ?aO ?aR (fun _ _ h => h) (fun _ h => h.elim) ?aF ?aB ?aS ?aL ?_; (case aR => repeat (first | exact (Kd.C_below HR0.out HB.out) | (with_reducible refine Kd.C_alloc ?_ _) | (with_reducible refine Kd.C_drewN ?_ _) | (with_reducible refine Kd.C_drew ?_))); (case aB => exact (by repeat (first | (with_reducible first | exact HB.out | apply below_alloc | apply pw_below_drewN | apply below_drew1) | exact HB.out))); (case aF => exact (fun k_ hk => Kd.fresh' (Kd.R_lt (by (with_reducible repeat (first | apply Kd.R_alloc | apply Kd.R_drewN | apply Kd.R_drew)); exact HO262.out)) k_ hk)); (case aO => exact (by (with_reducible repeat (first | apply Kd.R_alloc | apply Kd.R_drewN | apply Kd.R_drew)); exact HO268.out)); (case aS => exact (below_size (by repeat (first | (with_reducible first | exact HB.out | apply below_alloc | apply pw_below_drewN | apply below_drew1) | exact HB.out)))); (case aL => have := LMc4.out; omega); intro v270 w14 ho hb hg hat; rw [← Ny269.out] at ho; have n0_ := Aside0.mk (Kd.R_after (ok := (fun _ => True)) (by (with_reducible repeat (first | apply Kd.R_alloc | apply Kd.R_drewN | apply Kd.R_drew)); exact HO262.out) hg hat); have n1_ := Aside0.mk (hb); have n2_ := Aside0.mk (ho); clear HO262; clear HB; clear HO268; have HO262 := n0_; have HB := n1_; have HO271 := n2_; clear n0_ n1_ n2_; clear ho hb hg hat; obtain ⟨Ao15, co15, eo15⟩ := Kd.R_slice HO271.out; subst eo15) | ((with_reducible refine gate_callee (f := 77) rfl ?_); refine goesL_ (some 14) rfl rfl Tryz.func77 (by kernel_rfl) rfl #[.int .u32 0, .slice Ao15 y269.length co15] rfl (by (try simp only [List.map_toArray, List.map_cons, List.map_nil]); first | done | rfl | (simp only [List.length_drop, List.length_take]; rfl)) ?_; (with_reducible refine (estreatref03_More.calls k 0 _ _ y269 t272 _ ?side1 ?side2 A5.out).mono ?_); (case side1 => repeat (first | exact (Kd.R_reads' HO271.out).2.2 | (with_reducible refine Kd.C_alloc ?_ _) | (with_reducible refine Kd.C_drewN ?_ _) | (with_reducible refine Kd.C_drew ?_))); (case side2 => exact (Kd.R_reads' HO271.out).2.1); rintro e w' ⟨rfl, ⟨nd, rfl⟩⟩; refine ⟨_, rfl, ?_⟩) | ((with_reducible refine gate_callee (f := 76) rfl ?_); refine goesL_ (some 18) rfl rfl Tryz.func76 (by kernel_rfl) rfl #[.int .u64 (IntKind.u64.wrap (t272)), .int .i64 4] rfl (by (try simp only [List.map_toArray, List.map_cons, List.map_nil]); first | done | rfl | (simp only [List.length_drop, List.length_take]; rfl)) ?_; (with_reducible refine (estreatref01_Fix.calls k (IntKind.u64.wrap (t272)) 4 t273 _ A6.out).mono ?_); rintro e w16 ⟨v274, rfl, ho0, hb⟩; refine ⟨_, rfl, ?_⟩; have n0_ := Aside0.mk (Kd.R_elder' (by (with_reducible repeat (first | apply Kd.R_alloc | apply Kd.R_drewN | apply Kd.R_drew)); exact HO262.out) (Kd.R_base ho0) hb); have n1_ := Aside0.mk (Kd.R_elder' (by (with_reducible repeat (first | apply Kd.R_alloc | apply Kd.R_drewN | apply Kd.R_drew)); exact HO271.out) (Kd.R_base ho0) hb); have n2_ := Aside0.mk (Kd.R_lower (Kd.R_new' (Kd.R_new' ho0 (Kd.R_lt (by (with_reducible repeat (first | apply Kd.R_alloc | apply Kd.R_drewN | apply Kd.R_drew)); exact HO262.out))) (Kd.R_lt (by (with_reducible repeat (first | apply Kd.R_alloc | apply Kd.R_drewN | apply Kd.R_drew)); exact HO271.out))) (below_size (by repeat (first | (with_reducible first | exact HB.out | apply below_alloc | apply pw_below_drewN | apply below_drew1) | exact HB.out)))); have n3_ := Aside0.mk (below_step (by repeat (first | (with_reducible first | exact HB.out | apply below_alloc | apply pw_below_drewN | apply below_drew1) | exact HB.out)) hb); clear HO262; clear HO271; clear HB; have HO262 := n0_; have HO271 := n1_; have HO275 := n2_; have HB := n3_; clear n0_ n1_ n2_ n3_; (try clear hb); (try clear hb2); (try clear hk); (try clear hi); (try clear ho0); obtain ⟨Ao18, co18, eo18⟩ := Kd.R_slice HO275.out; subst eo18) | ((with_reducible refine gate_builtin (b := .append) (xs := #[.tmp 15, .tmp 18]) rfl ?_); at_builtin; refine Kd.R_append_rows (Kd.int .u8) (w0 := w) w.heap.size rfl (.tmp 15) (.tmp 18) 30 5 (.int .u8 0) 1 rfl Tryz.underlying30 info5 rfl (by decide) (by omega) (.slice Ao13 t260.length co13) t260 t273 _ _ _ (fun k_ => some k_ ≠ (.slice Ao15 y269.length co15 : Value).ownBlock ∧ some k_ ≠ (.slice Ao18 t273.length co18 : Value).ownBlock) (fun _ => False) rfl rfl ?aO ?aR (fun _ _ h => h) (fun _ h => h.elim) ?aF ?aB ?aS ?aL ?_; (case aR => repeat (first | exact (Kd.R_reads' HO275.out).2.2 | (with_reducible refine Kd.C_alloc ?_ _) | (with_reducible refine Kd.C_drewN ?_ _) | (with_reducible refine Kd.C_drew ?_))); (case aB => exact (by repeat (first | (with_reducible first | exact HB.out | apply below_alloc | apply pw_below_drewN | apply below_drew1) | exact HB.out))); (case aF => exact (fun k_ hk => ⟨Kd.fresh' (Kd.R_lt (by (with_reducible repeat (first | apply Kd.R_alloc | apply Kd.R_drewN | apply Kd.R_drew)); exact HO271.out)) k_ hk, Kd.fresh' (Kd.R_lt (by (with_reducible repeat (first | apply Kd.R_alloc | apply Kd.R_drewN | apply Kd.R_drew)); exact HO275.out)) k_ hk⟩)); (case aO => exact (by (with_reducible repeat (first | apply Kd.R_alloc | apply Kd.R_drewN | apply Kd.R_drew)); exact Kd.R_mono HO262.out (fun _ hk => ⟨hk.1.2, hk.2⟩))); (case aS => exact (below_size (by repeat (first | (with_reducible first | exact HB.out | apply below_alloc | apply pw_below_drewN | apply below_drew1) | exact HB.out)))); (case aL => have := LMc7.out; omega); intro v277 w17 ho hb hg hat; rw [← Ny276.out] at ho; have n0_ := Aside0.mk (Kd.R_after (ok := (fun k_ => some k_ ≠ (.slice Ao18 t273.length co18 : Value).ownBlock)) (by (with_reducible repeat (first | apply Kd.R_alloc | apply Kd.R_drewN | apply Kd.R_drew)); exact Kd.R_mono HO271.out (fun _ hk => ⟨hk.2, hk.1⟩)) hg hat); have n1_ := Aside0.mk (Kd.R_after (ok := (fun k_ => some k_ ≠ (.slice Ao15 y269.length co15 : Value).ownBlock)) (by (with_reducible repeat (first | apply Kd.R_alloc | apply Kd.R_drewN | apply Kd.R_drew)); exact Kd.R_mono HO275.out (fun _ hk => ⟨hk.2, hk.1.2⟩)) hg hat); have n2_ := Aside0.mk (hb); have n3_ := Aside0.mk (ho); clear HO271; clear HO275; clear HB; clear HO262; have HO271 := n0_; have HO275 := n1_; have HB := n2_; have HO278 := n3_; clear n0_ n1_ n2_ n3_; clear ho hb hg hat) | ((with_reducible refine gate_builtin (b := .append) (xs := #[.tmp 19, .tmp 20]) rfl ?_); at_builtin; refine Kd.R_append_rows (Kd.int .u8) (w0 := w) w.heap.size rfl (.tmp 19) (.tmp 20) 30 5 (.int .u8 0) 1 rfl Tryz.underlying30 info5 rfl (by decide) (by omega) v277 y276 l0 _ _ _ (fun k_ => some k_ ≠ (.slice Ao15 y269.length co15 : Value).ownBlock ∧ some k_ ≠ (.slice Ao18 t273.length co18 : Value).ownBlock) (fun _ => False) rfl rfl ?aO ?aR (fun _ _ h => h) (fun _ h => h.elim) ?aF ?aB ?aS ?aL ?_; (case aR => repeat (first | exact (Kd.C_below HR0.out HB.out) | (with_reducible refine Kd.C_alloc ?_ _) | (with_reducible refine Kd.C_drewN ?_ _) | (with_reducible refine Kd.C_drew ?_))); (case aB => exact (by repeat (first | (with_reducible first | exact HB.out | apply below_alloc | apply pw_below_drewN | apply below_drew1) | exact HB.out))); (case aF => exact (fun k_ hk => ⟨Kd.fresh' (Kd.R_lt (by (with_reducible repeat (first | apply Kd.R_alloc | apply Kd.R_drewN | apply Kd.R_drew)); exact HO271.out)) k_ hk, Kd.fresh' (Kd.R_lt (by (with_reducible repeat (first | apply Kd.R_alloc | apply Kd.R_drewN | apply Kd.R_drew)); exact HO275.out)) k_ hk⟩)); (case aO => exact (by (with_reducible repeat (first | apply Kd.R_alloc | apply Kd.R_drewN | apply Kd.R_drew)); exact HO278.out)); (case aS => exact (below_size (by repeat (first | (with_reducible first | exact HB.out | apply below_alloc | apply pw_below_drewN | apply below_drew1) | exact HB.out)))); (case aL => have := LMc8.out; omega); intro v280 w19 ho hb hg hat; rw [← Ny279.out] at ho; have n0_ := Aside0.mk (Kd.R_after (ok := (fun k_ => some k_ ≠ (.slice Ao18 t273.length co18 : Value).ownBlock)) (by (with_reducible repeat (first | apply Kd.R_alloc | apply Kd.R_drewN | apply Kd.R_drew)); exact HO271.out) hg hat); have n1_ := Aside0.mk (Kd.R_after (ok := (fun k_ => some k_ ≠ (.slice Ao15 y269.length co15 : Value).ownBlock)) (by (with_reducible repeat (first | apply Kd.R_alloc | apply Kd.R_drewN | apply Kd.R_drew)); exact HO275.out) hg hat); have n2_ := Aside0.mk (hb); have n3_ := Aside0.mk (ho); clear HO271; clear HO275; clear HB; clear HO278; have HO271 := n0_; have HO275 := n1_; have HB := n2_; have HO281 := n3_; clear n0_ n1_ n2_ n3_; clear ho hb hg hat))
          go_ret
          exact ⟨_, by first | rfl | (simp [errW_none, errW_some] <;> rfl) | (simp [*, errW_none, errW_some] <;> rfl), by (with_reducible repeat (first | apply Kd.R_alloc | apply Kd.R_drewN | apply Kd.R_drew)); exact Kd.R_mono HO281.out (fun _ hk => trivial), by repeat (first | (with_reducible first | exact HB.out | apply below_alloc | apply pw_below_drewN | apply below_drew1) | exact HB.out)⟩
        · rw [if_neg c8] at H
          exact absurd H (by simp)
      · rw [if_neg c7] at H
        exact absurd H (by simp)
    · rw [if_neg c4] at H
      exact absurd H (by simp)
  · rw [if_neg c3] at H
    exact absurd H (by simp)
end Go.Proofs.YtjmhiklmlgbifaaGreatDoor.PMan
end

/- Texts of this proof, put into one, without what it does not use: MyC. -/
import Derived.Test.YtjmhiklmlgbifaaGreatDoorPB40
import Derived.Test.YtjmhiklmlgbifaaGreatDoorPB28
import Derived.Test.YtjmhiklmlgbifaaGreatDoorPB25
import Derived.Test.YtjmhiklmlgbifaaGreatDoorPB29
section
namespace Go.Proofs.YtjmhiklmlgbifaaGreatDoor.PMan
open Go.RowKit Go.Proofs.YtjmhiklmlgbifaaGreatDoorW.PrintWords Go.Proofs.YtjmhiklmlgbifaaGreatDoorW.PrintLast Go.Proofs.YtjmhiklmlgbifaaGreatDoorW.PrintMore
set_option linter.unusedVariables false
set_option linter.unusedSimpArgs false
theorem step64 (i : Nat) (h : i < 9223372036854775807) : wrap64 ((i : Int) + 1) = ((i + 1 : Nat) : Int) := by unfold wrap64; omega
theorem sch_is (l : List S123) (hl : l.length ≤ 9223372036854775807) (n : Nat) : ∀ (k i : Nat), i + n = l.length → n < k → estreatref15_SameSchema.l0 k l l (i : Int) = some true := by
  induction n with
  | zero =>
    intro k i hi hk
    obtain ⟨k, rfl⟩ : ∃ m, k = m + 1 := ⟨k - 1, by omega⟩
    rw [estreatref15_SameSchema.l0, if_neg (by omega)]
  | succ n ih =>
    intro k i hi hk
    obtain ⟨k, rfl⟩ : ∃ m, k = m + 1 := ⟨k - 1, by omega⟩
    rw [estreatref15_SameSchema.l0, if_pos (by omega), if_pos (by omega), if_pos (by omega), if_neg (by simp), step64 i (by omega)]
    exact ih k (i + 1) (by omega) (by omega)
theorem sch_self (l : List S123) (hl : l.length ≤ 9223372036854775807) (k : Nat) (hk : l.length < k) : estreatref15_SameSchema.f k l l = some true := by
  unfold estreatref15_SameSchema.f
  rw [if_pos rfl, show (0 : Int) = ((0 : Nat) : Int) from rfl]
  exact sch_is l hl l.length k 0 (by omega) hk
theorem row_is (l : List S68) (hl : l.length ≤ 9223372036854775807) (n : Nat) : ∀ (k i : Nat), i + n = l.length → n < k → estreatref14_Same.l0 k l l (i : Int) = some true := by
  induction n with
  | zero =>
    intro k i hi hk
    obtain ⟨k, rfl⟩ : ∃ m, k = m + 1 := ⟨k - 1, by omega⟩
    rw [estreatref14_Same.l0, if_neg (by omega)]
  | succ n ih =>
    intro k i hi hk
    obtain ⟨k, rfl⟩ : ∃ m, k = m + 1 := ⟨k - 1, by omega⟩
    rw [estreatref14_Same.l0, if_pos (by omega), if_pos (by omega), if_pos (by omega), if_neg (by simp), step64 i (by omega)]
    exact ih k (i + 1) (by omega) (by omega)
theorem row_self (l : List S68) (hl : l.length ≤ 9223372036854775807) (k : Nat) (hk : l.length < k) : estreatref14_Same.f k l l = some true := by
  unfold estreatref14_Same.f
  rw [if_pos rfl, show (0 : Int) = ((0 : Nat) : Int) from rfl]
  exact row_is l hl l.length k 0 (by omega) hk
theorem rowsS_is (l : List (List S68)) (hl : l.length ≤ 9223372036854775807) (M : Nat) (hM : ∀ i : Nat, i < l.length → (rd_L6 l (i : Int)).length ≤ M) (hM2 : M ≤ 9223372036854775807) (n : Nat) : ∀ (k i : Nat), i + n = l.length → n + M < k → estreatref15_SameRows.l0 k l l (i : Int) = some true := by
  induction n with
  | zero =>
    intro k i hi hk
    obtain ⟨k, rfl⟩ : ∃ m, k = m + 1 := ⟨k - 1, by omega⟩
    rw [estreatref15_SameRows.l0, if_neg (by omega)]
  | succ n ih =>
    intro k i hi hk
    obtain ⟨k, rfl⟩ : ∃ m, k = m + 1 := ⟨k - 1, by omega⟩
    have h1 := hM i (by omega)
    rw [estreatref15_SameRows.l0, if_pos (by omega), if_pos (by omega), if_pos (by omega), row_self _ (by omega) k (by omega), Option.bind_some, if_pos rfl, step64 i (by omega)]
    exact ih k (i + 1) (by omega) (by omega)
theorem rowsS_self (l : List (List S68)) (hl : l.length ≤ 9223372036854775807) (M : Nat) (hM : ∀ i : Nat, i < l.length → (rd_L6 l (i : Int)).length ≤ M) (hM2 : M ≤ 9223372036854775807) (k : Nat) (hk : l.length + M < k) : estreatref15_SameRows.f k l l = some true := by
  unfold estreatref15_SameRows.f
  rw [if_pos rfl, show (0 : Int) = ((0 : Nat) : Int) from rfl]
  exact rowsS_is l hl M hM hM2 l.length k 0 (by omega) hk
theorem bytes_is (l : List Int) (hl : l.length ≤ 9223372036854775807) (n : Nat) : ∀ (k i : Nat), i + n = l.length → n < k → estreatref01_Same.l0 k l l (i : Int) = some true := by
  induction n with
  | zero =>
    intro k i hi hk
    obtain ⟨k, rfl⟩ : ∃ m, k = m + 1 := ⟨k - 1, by omega⟩
    rw [estreatref01_Same.l0, if_neg (by omega)]
  | succ n ih =>
    intro k i hi hk
    obtain ⟨k, rfl⟩ : ∃ m, k = m + 1 := ⟨k - 1, by omega⟩
    rw [estreatref01_Same.l0, if_pos (by omega), if_pos (by omega), if_pos (by omega), if_pos rfl, step64 i (by omega)]
    exact ih k (i + 1) (by omega) (by omega)
theorem bytes_self (l : List Int) (hl : l.length ≤ 9223372036854775807) : estreatref01_Same.f (l.length + 1) l l = some true := by
  unfold estreatref01_Same.f
  rw [if_pos rfl, show (0 : Int) = ((0 : Nat) : Int) from rfl]
  exact bytes_is l hl l.length (l.length + 1) 0 (by omega) (Nat.lt_succ_self _)
theorem sameHd_calls' (x y : Int) (f : Nat → Int) (cols : List CH) (A : Option Addr) (c : Nat) (A' : Option Addr) (c' : Nat) (w : World) (h1 : kCH.C w A cols.length cols) (hc1 : cols.length ≤ c) (h2 : kCH.C w A' cols.length cols) (hc2 : cols.length ≤ c') :
    Calls Tryz.prog 66 #[.agg (hdCells ⟨x, y, HL f, cols⟩ A c).toArray, .agg (hdCells ⟨x, y, HL f, cols⟩ A' c').toArray] w fun e w' => e = .returned (.bool true) ∧ Below w.heap.size w w' := sameHd_calls x y f cols A c A' c' w h1 hc1 h2 hc2
theorem rf_cells {W : World} {b n : Nat} {id x y : Int} {f : Nat → Int} {cols : List CH} {dl : List Int} {A : Option Addr} {c : Nat} {B : Option Addr} {d : Nat} (h : W.rangeAt b n (rfCells ⟨id, ⟨x, y, HL f, cols⟩, dl⟩ A c B d)) :
    W.cell? ⟨b, n, none⟩ = some (.int .i64 id) ∧ W.rangeAt b (n + 1) (hdCells ⟨x, y, HL f, cols⟩ A c) ∧ W.cell? ⟨b, n + 36, none⟩ = some (.slice B dl.length d) :=
  ⟨h 0 _ (by kernel_rfl), range_part (pre := [.int .i64 id]) (cs := hdCells ⟨x, y, HL f, cols⟩ A c) (post := [.slice B dl.length d]) h (n + 1) rfl, h 36 _ (by kernel_rfl)⟩
set_option maxHeartbeats 32000000 in
set_option maxRecDepth 100000 in
theorem refSame_calls (m : Mn) (As : Option Addr) (cs : Nat) (Ag : Option Addr) (cg : Nat) (Al : Option Addr) (cl : Nat) (Ae : Option Addr) (ce : Nat) (As' : Option Addr) (cs' : Nat) (Ag' : Option Addr) (cg' : Nat) (Al' : Option Addr) (cl' : Nat) (Ae' : Option Addr) (ce' : Nat) (w : World) (hm : MnC w m As cs Ag cg Al cl Ae ce) (hm' : MnC w m As' cs' Ag' cg' Al' cl' Ae' ce') :
    Calls Tryz.prog 20 #[.agg (mnCells m As cs Ag cg Al cl Ae ce), .agg (mnCells m As' cs' Ag' cg' Al' cl' Ae' ce')] w fun e w' => e = .returned (.bool true) ∧ Below w.heap.size w w' := by
  show Calls Tryz.prog 20 #[.agg #[.int .i64 m.gen, .int .i64 m.next, .slice As m.schema.length cs, .int .i64 m.most, .slice Ag m.groups.length cg, .slice Al m.loose.length cl, .slice Ae m.entries.length ce], .agg #[.int .i64 m.gen, .int .i64 m.next, .slice As' m.schema.length cs', .int .i64 m.most, .slice Ag' m.groups.length cg', .slice Al' m.loose.length cl', .slice Ae' m.entries.length ce']] w _
  have hbs : m.schema.length ≤ 9223372036854775807 := hm.s.2.1
  have hbl : m.loose.length ≤ 9223372036854775807 := hm.l.2.1
  have hbe : m.entries.length ≤ 9223372036854775807 := hm.e.2.1
  have hbg : m.groups.length ≤ 9223372036854775807 := hm.g.2.1
  have hin : ∀ i : Nat, i < m.loose.length → (rd_L6 m.loose (i : Int)).length ≤ 9223372036854775807 := fun i hi => by
    obtain ⟨ad, A, c, _, _, _, h⟩ := at_L6 hm.l (i : Int) (by omega) (by omega)
    exact h.2.1
  have HS := Aside0.mk (sch_self m.schema hbs _ (Nat.lt_succ_self _))
  have HL := Aside0.mk (rowsS_self m.loose hbl _ hin (Nat.le_refl _) _ (Nat.lt_succ_self _))
  clear hin
  have hx1 := heap_alloc_new w (.cells #[.int .i64 m.gen, .int .i64 m.next, .slice As m.schema.length cs, .int .i64 m.most, .slice Ag m.groups.length cg, .slice Al m.loose.length cl, .slice Ae m.entries.length ce] 27)
  have hs1 : (w.alloc (.cells #[.int .i64 m.gen, .int .i64 m.next, .slice As m.schema.length cs, .int .i64 m.most, .slice Ag m.groups.length cg, .slice Al m.loose.length cl, .slice Ae m.entries.length ce] 27)).heap.size = w.heap.size + 1 := size_alloc _ _
  have hb1 : Below w.heap.size w (w.alloc (.cells #[.int .i64 m.gen, .int .i64 m.next, .slice As m.schema.length cs, .int .i64 m.most, .slice Ag m.groups.length cg, .slice Al m.loose.length cl, .slice Ae m.entries.length ce] 27)) := below_alloc (Below.refl _ _) _
  have hb2 : Below (w.heap.size + 1) (w.alloc (.cells #[.int .i64 m.gen, .int .i64 m.next, .slice As m.schema.length cs, .int .i64 m.most, .slice Ag m.groups.length cg, .slice Al m.loose.length cl, .slice Ae m.entries.length ce] 27)) ((w.alloc (.cells #[.int .i64 m.gen, .int .i64 m.next, .slice As m.schema.length cs, .int .i64 m.most, .slice Ag m.groups.length cg, .slice Al m.loose.length cl, .slice Ae m.entries.length ce] 27)).alloc (.cells #[.int .i64 m.gen, .int .i64 m.next, .slice As' m.schema.length cs', .int .i64 m.most, .slice Ag' m.groups.length cg', .slice Al' m.loose.length cl', .slice Ae' m.entries.length ce'] 27)) := hs1 ▸ below_alloc (Below.refl _ _) _
  have hx2 := heap_alloc_new (w.alloc (.cells #[.int .i64 m.gen, .int .i64 m.next, .slice As m.schema.length cs, .int .i64 m.most, .slice Ag m.groups.length cg, .slice Al m.loose.length cl, .slice Ae m.entries.length ce] 27)) (.cells #[.int .i64 m.gen, .int .i64 m.next, .slice As' m.schema.length cs', .int .i64 m.most, .slice Ag' m.groups.length cg', .slice Al' m.loose.length cl', .slice Ae' m.entries.length ce'] 27)
  rw [hs1] at hx2
  have hx1' := (hb2.block w.heap.size (by omega)).trans hx1
  have hbb : Below w.heap.size w ((w.alloc (.cells #[.int .i64 m.gen, .int .i64 m.next, .slice As m.schema.length cs, .int .i64 m.most, .slice Ag m.groups.length cg, .slice Al m.loose.length cl, .slice Ae m.entries.length ce] 27)).alloc (.cells #[.int .i64 m.gen, .int .i64 m.next, .slice As' m.schema.length cs', .int .i64 m.most, .slice Ag' m.groups.length cg', .slice Al' m.loose.length cl', .slice Ae' m.entries.length ce'] 27)) := hb1.trans (hb2.mono (by omega))
  have H1 := Aside0.mk hx1'
  have H2 := Aside0.mk hx2
  have HBB := Aside0.mk hbb
  have HA := Aside0.mk (hm.below hbb)
  have HA' := Aside0.mk (hm'.below hbb)
  clear hx1 hs1 hb1 hb2 hx2 hx1' hbb hm hm'
  go_enter Tryz.func20, Tryz.ntmps20
  go_wp2_with fail
  generalize ((w.alloc (.cells #[.int .i64 m.gen, .int .i64 m.next, .slice As m.schema.length cs, .int .i64 m.most, .slice Ag m.groups.length cg, .slice Al m.loose.length cl, .slice Ae m.entries.length ce] 27)).alloc (.cells #[.int .i64 m.gen, .int .i64 m.next, .slice As' m.schema.length cs', .int .i64 m.most, .slice Ag' m.groups.length cg', .slice Al' m.loose.length cl', .slice Ae' m.entries.length ce'] 27)) = W0 at *
  have p0 : W0.cell? ⟨w.heap.size, 0, none⟩ = some (.int .i64 m.gen) := blk_cell H1.out 0
  have q0 : W0.cell? ⟨w.heap.size + 1, 0, none⟩ = some (.int .i64 m.gen) := blk_cell H2.out 0
  have p1 : W0.cell? ⟨w.heap.size, 1, none⟩ = some (.int .i64 m.next) := blk_cell H1.out 1
  have q1 : W0.cell? ⟨w.heap.size + 1, 1, none⟩ = some (.int .i64 m.next) := blk_cell H2.out 1
  have p2 : W0.cell? ⟨w.heap.size, 2, none⟩ = some (.slice As m.schema.length cs) := blk_cell H1.out 2
  have q2 : W0.cell? ⟨w.heap.size + 1, 2, none⟩ = some (.slice As' m.schema.length cs') := blk_cell H2.out 2
  have p3 : W0.cell? ⟨w.heap.size, 3, none⟩ = some (.int .i64 m.most) := blk_cell H1.out 3
  have q3 : W0.cell? ⟨w.heap.size + 1, 3, none⟩ = some (.int .i64 m.most) := blk_cell H2.out 3
  have p4 : W0.cell? ⟨w.heap.size, 4, none⟩ = some (.slice Ag m.groups.length cg) := blk_cell H1.out 4
  have q4 : W0.cell? ⟨w.heap.size + 1, 4, none⟩ = some (.slice Ag' m.groups.length cg') := blk_cell H2.out 4
  have p5 : W0.cell? ⟨w.heap.size, 5, none⟩ = some (.slice Al m.loose.length cl) := blk_cell H1.out 5
  have q5 : W0.cell? ⟨w.heap.size + 1, 5, none⟩ = some (.slice Al' m.loose.length cl') := blk_cell H2.out 5
  have p6 : W0.cell? ⟨w.heap.size, 6, none⟩ = some (.slice Ae m.entries.length ce) := blk_cell H1.out 6
  have q6 : W0.cell? ⟨w.heap.size + 1, 6, none⟩ = some (.slice Ae' m.entries.length ce') := blk_cell H2.out 6
  have P0 := Aside0.mk p0
  have Q0 := Aside0.mk q0
  have P1 := Aside0.mk p1
  have Q1 := Aside0.mk q1
  have P2 := Aside0.mk p2
  have Q2 := Aside0.mk q2
  have P3 := Aside0.mk p3
  have Q3 := Aside0.mk q3
  have P4 := Aside0.mk p4
  have Q4 := Aside0.mk q4
  have P5 := Aside0.mk p5
  have Q5 := Aside0.mk q5
  have P6 := Aside0.mk p6
  have Q6 := Aside0.mk q6
  refine (estreatref15_SameSchema.calls _ As cs m.schema As' cs' m.schema true W0 HA.out.s HA.out.hs HA'.out.s HA'.out.hs HS.out).mono ?_
  rintro ev wa ⟨rfl, ⟨n1, rfl⟩⟩
  have HBa := Aside0.mk (pw_below_drewN (Below.refl W0.heap.size W0) n1)
  generalize W0.drewN n1 = wa at *
  clear p0 q0 p1 q1 p2 q2 p3 q3 p4 q4 p5 q5 p6 q6
  have p0 := pw_cell_below HBa.out P0.out
  have q0 := pw_cell_below HBa.out Q0.out
  have p1 := pw_cell_below HBa.out P1.out
  have q1 := pw_cell_below HBa.out Q1.out
  have p2 := pw_cell_below HBa.out P2.out
  have q2 := pw_cell_below HBa.out Q2.out
  have p3 := pw_cell_below HBa.out P3.out
  have q3 := pw_cell_below HBa.out Q3.out
  have p4 := pw_cell_below HBa.out P4.out
  have q4 := pw_cell_below HBa.out Q4.out
  have p5 := pw_cell_below HBa.out P5.out
  have q5 := pw_cell_below HBa.out Q5.out
  have p6 := pw_cell_below HBa.out P6.out
  have q6 := pw_cell_below HBa.out Q6.out
  go_wp2_with fail
  refine (estreatref15_SameRows.calls _ Al cl m.loose Al' cl' m.loose true wa (HA.out.below HBa.out).l HA.out.hl (HA'.out.below HBa.out).l HA'.out.hl HL.out).mono ?_
  rintro ev wb ⟨rfl, ⟨n2, rfl⟩⟩
  have HBb := Aside0.mk (pw_below_drewN HBa.out n2)
  generalize wa.drewN n2 = wb at *
  clear HS HL
  clear p0 q0 p1 q1 p2 q2 p3 q3 p4 q4 p5 q5 p6 q6
  have p0 := pw_cell_below HBb.out P0.out
  have q0 := pw_cell_below HBb.out Q0.out
  have p1 := pw_cell_below HBb.out P1.out
  have q1 := pw_cell_below HBb.out Q1.out
  have p2 := pw_cell_below HBb.out P2.out
  have q2 := pw_cell_below HBb.out Q2.out
  have p3 := pw_cell_below HBb.out P3.out
  have q3 := pw_cell_below HBb.out Q3.out
  have p4 := pw_cell_below HBb.out P4.out
  have q4 := pw_cell_below HBb.out Q4.out
  have p5 := pw_cell_below HBb.out P5.out
  have q5 := pw_cell_below HBb.out Q5.out
  have p6 := pw_cell_below HBb.out P6.out
  have q6 := pw_cell_below HBb.out Q6.out
  go_wp2_with fail
  clear p0 q0 p1 q1 p2 q2 p3 q3 p4 q4 p5 q5 p6 q6
  go_loopw [5] (fun v5 w' => ∃ (i : Nat), i ≤ m.groups.length ∧ v5 = .int .i64 i ∧ Aside0 (Below W0.heap.size W0 w')) (fun v _ => m.groups.length - (intOf v).toNat)
  case atStart => exact ⟨0, Nat.zero_le _, rfl, HBb⟩
  case round =>
    obtain ⟨i, hi, rfl, HB⟩ := hrel
    have p4 := pw_cell_below HB.out P4.out
    have q4 := pw_cell_below HB.out Q4.out
    by_cases hlt : i < m.groups.length
    · obtain ⟨b, o, ks, e1, hK, hcl, hmm⟩ := C_mid (HA.out.below HB.out).g zRf i hlt (by decide)
      obtain ⟨b', o', ks', e2, hK', hcl', hmm'⟩ := C_mid (HA'.out.below HB.out).g zRf i hlt (by decide)
      generalize m.groups.getD i zRf = z at *
      obtain ⟨A, c, B, d, rfl, h32, hc, hC, hd, hD⟩ := kRf_open hK
      obtain ⟨A', c', B', d', rfl, _, hc', hC', hd', hD'⟩ := kRf_open hK'
      obtain ⟨id, ⟨x, y, dd, cols⟩, dl⟩ := z
      dsimp only at hmm hmm' h32 hc hC hd hD hc' hC' hd' hD'
      obtain ⟨f, rfl⟩ : ∃ f, dd = HL f := ⟨_, range_fn dd h32⟩
      have hbd : Below wr.heap.size wr wr.drew := below_drew (Below.refl _ _)
      obtain ⟨r0, r1, r2⟩ := rf_cells (range_below hmm hbd)
      obtain ⟨s0, s1, s2⟩ := rf_cells (range_below hmm' hbd)
      have HBD : Aside0 (Below W0.heap.size W0 wr.drew) := Aside0.mk (below_drew HB.out)
      have HC1 := Aside0.mk (Kd.C_below hC hbd)
      have HC2 := Aside0.mk (Kd.C_below hC' hbd)
      have HD1 := Aside0.mk (Kd.C_below hD hbd)
      have HD2 := Aside0.mk (Kd.C_below hD' hbd)
      have HDS := Aside0.mk (bytes_self dl hD.2.1)
      have p4 : wr.drew.cell? ⟨w.heap.size, 4, none⟩ = some (.slice Ag m.groups.length cg) := p4
      have q4 : wr.drew.cell? ⟨w.heap.size + 1, 4, none⟩ = some (.slice Ag' m.groups.length cg') := q4
      cases e1
      cases e2
      clear hK hK' hcl hcl' hmm hmm' h32 hbd hC hC' hD hD'
      go_wp2_with fail
      refine start_ (n := 45) (S := fun w' => w'.cell? ⟨w.heap.size, 4, none⟩ = some (.slice (some ⟨b, o, none⟩) m.groups.length cg) ∧ w'.cell? ⟨w.heap.size + 1, 4, none⟩ = some (.slice (some ⟨b', o', none⟩) m.groups.length cg') ∧ w'.cell? ⟨b, o + i * 37, none⟩ = some (.int .i64 id) ∧ w'.cell? ⟨b', o' + i * 37, none⟩ = some (.int .i64 id) ∧ w'.rangeAt b (o + i * 37 + 1) (hdCells ⟨x, y, HL f, cols⟩ A c) ∧ w'.rangeAt b' (o' + i * 37 + 1) (hdCells ⟨x, y, HL f, cols⟩ A' c') ∧ w'.cell? ⟨b, o + i * 37 + 36, none⟩ = some (.slice B dl.length d) ∧ w'.cell? ⟨b', o' + i * 37 + 36, none⟩ = some (.slice B' dl.length d')) (ds := []) #[false, false, false, false, false, false, false, false, false, false, false, false, false, false, false, false, false, false, false, false, false, false, false, false, false, false, false, false, false, false, false, false, false, false, false, false, false, false, false, false, false, false, false, false, false] (by kernel_rfl) rfl rfl ⟨p4, q4, r0, s0, r1, s1, r2, s2⟩ (fun hHeld => ?_)
      generalize wr.drew = wd at *
      refine pure_ (i := 0) (N := some 67) (v := ?_) (a' := ?_) #[true, false, false, false, false, false, false, false, false, false, false, false, false, false, false, false, false, false, false, false, false, false, false, false, false, false, false, false, false, false, false, false, false, false, false, false, false, false, false, false, false, false, false, false, false] rfl rfl (by kernel_rfl) (fun _ _ _ h => h) (Or.inl ⟨by rfl, ?_⟩) ?_ ?_
      rotate_left
      · intro w'
        go_simp
        with_reducible rfl
      rotate_left
      · simp only [Act.put, List.setIfInBounds_toArray, List.set_cons_zero, List.set_cons_succ, i64_w, i32_w]
        rfl
      refine pure_ (i := 2) (N := some 69) (v := ?_) (a' := ?_) #[true, false, true, false, false, false, false, false, false, false, false, false, false, false, false, false, false, false, false, false, false, false, false, false, false, false, false, false, false, false, false, false, false, false, false, false, false, false, false, false, false, false, false, false, false] rfl rfl (by kernel_rfl) (fun _ _ _ h => h) (Or.inl ⟨by rfl, ?_⟩) ?_ ?_
      rotate_left
      · intro w'
        go_simp
        with_reducible rfl
      rotate_left
      · simp only [Act.put, List.setIfInBounds_toArray, List.set_cons_zero, List.set_cons_succ, i64_w, i32_w]
        rfl
      refine pure_ (i := 6) (N := some 73) (v := ?_) (a' := ?_) #[true, false, true, false, false, false, true, false, false, false, false, false, false, false, false, false, false, false, false, false, false, false, false, false, false, false, false, false, false, false, false, false, false, false, false, false, false, false, false, false, false, false, false, false, false] rfl rfl (by kernel_rfl) (fun _ _ _ h => h) (Or.inl ⟨by rfl, ?_⟩) ?_ ?_
      rotate_left
      · intro w'
        go_simp
        with_reducible rfl
      rotate_left
      · simp only [Act.put, List.setIfInBounds_toArray, List.set_cons_zero, List.set_cons_succ, i64_w, i32_w]
        rfl
      refine pure_ (i := 8) (N := some 75) (v := ?_) (a' := ?_) #[true, false, true, false, false, false, true, false, true, false, false, false, false, false, false, false, false, false, false, false, false, false, false, false, false, false, false, false, false, false, false, false, false, false, false, false, false, false, false, false, false, false, false, false, false] rfl rfl (by kernel_rfl) (fun _ _ _ h => h) (Or.inl ⟨by rfl, ?_⟩) ?_ ?_
      rotate_left
      · intro w'
        go_simp
        with_reducible rfl
      rotate_left
      · simp only [Act.put, List.setIfInBounds_toArray, List.set_cons_zero, List.set_cons_succ, i64_w, i32_w]
        rfl
      refine take_ (i := 1) (N := some 68) (v := ?_) (a' := ?_) #[true, true, true, false, false, false, true, false, true, false, false, false, false, false, false, false, false, false, false, false, false, false, false, false, false, false, false, false, false, false, false, false, false, false, false, false, false, false, false, false, false, false, false, false, false] rfl rfl (by kernel_rfl) (fun _ _ _ h => h) (Or.inl ⟨by rfl, ?_⟩) hHeld ?_ ?_
      rotate_left
      · rintro w' ⟨s0, s1, s2, s3, s4, s5, s6, s7⟩
        go_simp
        with_reducible rfl
      rotate_left
      · simp only [Act.put, List.setIfInBounds_toArray, List.set_cons_zero, List.set_cons_succ, i64_w, i32_w]
        rfl
      refine pure_ (i := 3) (N := some 70) (v := ?_) (a' := ?_) #[true, true, true, true, false, false, true, false, true, false, false, false, false, false, false, false, false, false, false, false, false, false, false, false, false, false, false, false, false, false, false, false, false, false, false, false, false, false, false, false, false, false, false, false, false] rfl rfl (by kernel_rfl) (fun _ _ _ h => h) (Or.inl ⟨by rfl, ?_⟩) ?_ ?_
      rotate_left
      · intro w'
        go_simp
        with_reducible rfl
      rotate_left
      · simp only [Act.put, List.setIfInBounds_toArray, List.set_cons_zero, List.set_cons_succ, i64_w, i32_w]
        rfl
      refine pure_ (i := 4) (N := some 71) (v := ?_) (a' := ?_) #[true, true, true, true, true, false, true, false, true, false, false, false, false, false, false, false, false, false, false, false, false, false, false, false, false, false, false, false, false, false, false, false, false, false, false, false, false, false, false, false, false, false, false, false, false] rfl rfl (by kernel_rfl) (fun _ _ _ h => h) (Or.inl ⟨by rfl, ?_⟩) ?_ ?_
      rotate_left
      · intro w'
        go_simp
        with_reducible rfl
      rotate_left
      · simp only [Act.put, List.setIfInBounds_toArray, List.set_cons_zero, List.set_cons_succ, i64_w, i32_w]
        rfl
      refine take_ (i := 5) (N := some 72) (v := ?_) (a' := ?_) #[true, true, true, true, true, true, true, false, true, false, false, false, false, false, false, false, false, false, false, false, false, false, false, false, false, false, false, false, false, false, false, false, false, false, false, false, false, false, false, false, false, false, false, false, false] rfl rfl (by kernel_rfl) (fun _ _ _ h => h) (Or.inl ⟨by rfl, ?_⟩) hHeld ?_ ?_
      rotate_left
      · rintro w' ⟨s0, s1, s2, s3, s4, s5, s6, s7⟩
        go_simp
        with_reducible rfl
      rotate_left
      · simp only [Act.put, List.setIfInBounds_toArray, List.set_cons_zero, List.set_cons_succ, i64_w, i32_w]
        rfl
      refine take_ (i := 7) (N := some 74) (v := ?_) (a' := ?_) #[true, true, true, true, true, true, true, true, true, false, false, false, false, false, false, false, false, false, false, false, false, false, false, false, false, false, false, false, false, false, false, false, false, false, false, false, false, false, false, false, false, false, false, false, false] rfl rfl (by kernel_rfl) (fun _ _ _ h => h) (Or.inl ⟨by rfl, ?_⟩) hHeld ?_ ?_
      rotate_left
      · rintro w' ⟨s0, s1, s2, s3, s4, s5, s6, s7⟩
        go_simp
        with_reducible rfl
      rotate_left
      · simp only [Act.put, List.setIfInBounds_toArray, List.set_cons_zero, List.set_cons_succ, i64_w, i32_w]
        rfl
      refine pure_ (i := 9) (N := some 76) (v := ?_) (a' := ?_) #[true, true, true, true, true, true, true, true, true, true, false, false, false, false, false, false, false, false, false, false, false, false, false, false, false, false, false, false, false, false, false, false, false, false, false, false, false, false, false, false, false, false, false, false, false] rfl rfl (by kernel_rfl) (fun _ _ _ h => h) (Or.inl ⟨by rfl, ?_⟩) ?_ ?_
      rotate_left
      · intro w'
        go_simp
        with_reducible rfl
      rotate_left
      · simp only [Act.put, List.setIfInBounds_toArray, List.set_cons_zero, List.set_cons_succ, i64_w, i32_w]
        rfl
      refine pure_ (i := 10) (N := some 77) (v := ?_) (a' := ?_) #[true, true, true, true, true, true, true, true, true, true, true, false, false, false, false, false, false, false, false, false, false, false, false, false, false, false, false, false, false, false, false, false, false, false, false, false, false, false, false, false, false, false, false, false, false] rfl rfl (by kernel_rfl) (fun _ _ _ h => h) (Or.inl ⟨by rfl, ?_⟩) ?_ ?_
      rotate_left
      · intro w'
        go_simp
        with_reducible rfl
      rotate_left
      · simp only [Act.put, List.setIfInBounds_toArray, List.set_cons_zero, List.set_cons_succ, i64_w, i32_w]
        rfl
      refine take_ (i := 11) (N := some 78) (v := ?_) (a' := ?_) #[true, true, true, true, true, true, true, true, true, true, true, true, false, false, false, false, false, false, false, false, false, false, false, false, false, false, false, false, false, false, false, false, false, false, false, false, false, false, false, false, false, false, false, false, false] rfl rfl (by kernel_rfl) (fun _ _ _ h => h) (Or.inl ⟨by rfl, ?_⟩) hHeld ?_ ?_
      rotate_left
      · rintro w' ⟨s0, s1, s2, s3, s4, s5, s6, s7⟩
        go_simp
        with_reducible rfl
      rotate_left
      · simp only [Act.put, List.setIfInBounds_toArray, List.set_cons_zero, List.set_cons_succ, i64_w, i32_w]
        rfl
      refine pure_ (i := 12) (N := some 79) (v := ?_) (a' := ?_) #[true, true, true, true, true, true, true, true, true, true, true, true, true, false, false, false, false, false, false, false, false, false, false, false, false, false, false, false, false, false, false, false, false, false, false, false, false, false, false, false, false, false, false, false, false] rfl rfl (by kernel_rfl) (fun _ _ _ h => h) (Or.inl ⟨by rfl, ?_⟩) ?_ ?_
      rotate_left
      · intro w'
        go_simp
        with_reducible rfl
      rotate_left
      · simp only [Act.put, List.setIfInBounds_toArray, List.set_cons_zero, List.set_cons_succ, i64_w, i32_w]
        rfl
      refine pure_ (i := 13) (N := some 80) (v := ?_) (a' := ?_) #[true, true, true, true, true, true, true, true, true, true, true, true, true, true, false, false, false, false, false, false, false, false, false, false, false, false, false, false, false, false, false, false, false, false, false, false, false, false, false, false, false, false, false, false, false] rfl rfl (by kernel_rfl) (fun _ _ _ h => h) (Or.inl ⟨by rfl, ?_⟩) ?_ ?_
      rotate_left
      · intro w'
        go_simp
        with_reducible rfl
      rotate_left
      · simp only [Act.put, List.setIfInBounds_toArray, List.set_cons_zero, List.set_cons_succ, i64_w, i32_w]
        rfl
      refine pure_ (i := 14) (N := some 81) (v := ?_) (a' := ?_) #[true, true, true, true, true, true, true, true, true, true, true, true, true, true, true, false, false, false, false, false, false, false, false, false, false, false, false, false, false, false, false, false, false, false, false, false, false, false, false, false, false, false, false, false, false] rfl rfl (by kernel_rfl) (fun _ _ _ h => h) (Or.inl ⟨by rfl, ?_⟩) ?_ ?_
      rotate_left
      · intro w'
        go_simp
        with_reducible rfl
      rotate_left
      · simp only [Act.put, List.setIfInBounds_toArray, List.set_cons_zero, List.set_cons_succ, i64_w, i32_w]
        rfl
      refine pure_ (i := 16) (N := some 83) (v := ?_) (a' := ?_) #[true, true, true, true, true, true, true, true, true, true, true, true, true, true, true, false, true, false, false, false, false, false, false, false, false, false, false, false, false, false, false, false, false, false, false, false, false, false, false, false, false, false, false, false, false] rfl rfl (by kernel_rfl) (fun _ _ _ h => h) (Or.inl ⟨by rfl, ?_⟩) ?_ ?_
      rotate_left
      · intro w'
        go_simp
        with_reducible rfl
      rotate_left
      · simp only [Act.put, List.setIfInBounds_toArray, List.set_cons_zero, List.set_cons_succ, i64_w, i32_w]
        rfl
      refine pure_ (i := 20) (N := some 87) (v := ?_) (a' := ?_) #[true, true, true, true, true, true, true, true, true, true, true, true, true, true, true, false, true, false, false, false, true, false, false, false, false, false, false, false, false, false, false, false, false, false, false, false, false, false, false, false, false, false, false, false, false] rfl rfl (by kernel_rfl) (fun _ _ _ h => h) (Or.inl ⟨by rfl, ?_⟩) ?_ ?_
      rotate_left
      · intro w'
        go_simp
        with_reducible rfl
      rotate_left
      · simp only [Act.put, List.setIfInBounds_toArray, List.set_cons_zero, List.set_cons_succ, i64_w, i32_w]
        rfl
      refine pure_ (i := 22) (N := some 89) (v := ?_) (a' := ?_) #[true, true, true, true, true, true, true, true, true, true, true, true, true, true, true, false, true, false, false, false, true, false, true, false, false, false, false, false, false, false, false, false, false, false, false, false, false, false, false, false, false, false, false, false, false] rfl rfl (by kernel_rfl) (fun _ _ _ h => h) (Or.inl ⟨by rfl, ?_⟩) ?_ ?_
      rotate_left
      · intro w'
        go_simp
        with_reducible rfl
      rotate_left
      · simp only [Act.put, List.setIfInBounds_toArray, List.set_cons_zero, List.set_cons_succ, i64_w, i32_w]
        rfl
      refine take_ (i := 15) (N := some 82) (v := ?_) (a' := ?_) #[true, true, true, true, true, true, true, true, true, true, true, true, true, true, true, true, true, false, false, false, true, false, true, false, false, false, false, false, false, false, false, false, false, false, false, false, false, false, false, false, false, false, false, false, false] rfl rfl (by kernel_rfl) (fun _ _ _ h => h) (Or.inl ⟨by rfl, ?_⟩) hHeld ?_ ?_
      rotate_left
      · rintro w' ⟨s0, s1, s2, s3, s4, s5, s6, s7⟩
        go_simp
        with_reducible rfl
      rotate_left
      · simp only [Act.put, List.setIfInBounds_toArray, List.set_cons_zero, List.set_cons_succ, i64_w, i32_w]
        rfl
      refine pure_ (i := 17) (N := some 84) (v := ?_) (a' := ?_) #[true, true, true, true, true, true, true, true, true, true, true, true, true, true, true, true, true, true, false, false, true, false, true, false, false, false, false, false, false, false, false, false, false, false, false, false, false, false, false, false, false, false, false, false, false] rfl rfl (by kernel_rfl) (fun _ _ _ h => h) (Or.inl ⟨by rfl, ?_⟩) ?_ ?_
      rotate_left
      · intro w'
        go_simp
        with_reducible rfl
      rotate_left
      · simp only [Act.put, List.setIfInBounds_toArray, List.set_cons_zero, List.set_cons_succ, i64_w, i32_w]
        rfl
      refine pure_ (i := 18) (N := some 85) (v := ?_) (a' := ?_) #[true, true, true, true, true, true, true, true, true, true, true, true, true, true, true, true, true, true, true, false, true, false, true, false, false, false, false, false, false, false, false, false, false, false, false, false, false, false, false, false, false, false, false, false, false] rfl rfl (by kernel_rfl) (fun _ _ _ h => h) (Or.inl ⟨by rfl, ?_⟩) ?_ ?_
      rotate_left
      · intro w'
        go_simp
        with_reducible rfl
      rotate_left
      · simp only [Act.put, List.setIfInBounds_toArray, List.set_cons_zero, List.set_cons_succ, i64_w, i32_w]
        rfl
      refine take_ (i := 19) (N := some 86) (v := ?_) (a' := ?_) #[true, true, true, true, true, true, true, true, true, true, true, true, true, true, true, true, true, true, true, true, true, false, true, false, false, false, false, false, false, false, false, false, false, false, false, false, false, false, false, false, false, false, false, false, false] rfl rfl (by kernel_rfl) (fun _ _ _ h => h) (Or.inl ⟨by rfl, ?_⟩) hHeld ?_ ?_
      rotate_left
      · rintro w' ⟨s0, s1, s2, s3, s4, s5, s6, s7⟩
        refine exec_load_mid 64 (.tmp 85) ?_ b (o + i * 37 + 1) ?_ (hdCells ⟨x, y, HL f, cols⟩ A c) _ s4 Tryz.underlying64 rfl ?_
        · rfl
        · rfl
        · kernel_rfl
      rotate_left
      · simp only [Act.put, List.setIfInBounds_toArray, List.set_cons_zero, List.set_cons_succ, i64_w, i32_w]
        rfl
      refine take_ (i := 21) (N := some 88) (v := ?_) (a' := ?_) #[true, true, true, true, true, true, true, true, true, true, true, true, true, true, true, true, true, true, true, true, true, true, true, false, false, false, false, false, false, false, false, false, false, false, false, false, false, false, false, false, false, false, false, false, false] rfl rfl (by kernel_rfl) (fun _ _ _ h => h) (Or.inl ⟨by rfl, ?_⟩) hHeld ?_ ?_
      rotate_left
      · rintro w' ⟨s0, s1, s2, s3, s4, s5, s6, s7⟩
        go_simp
        with_reducible rfl
      rotate_left
      · simp only [Act.put, List.setIfInBounds_toArray, List.set_cons_zero, List.set_cons_succ, i64_w, i32_w]
        rfl
      refine pure_ (i := 23) (N := some 90) (v := ?_) (a' := ?_) #[true, true, true, true, true, true, true, true, true, true, true, true, true, true, true, true, true, true, true, true, true, true, true, true, false, false, false, false, false, false, false, false, false, false, false, false, false, false, false, false, false, false, false, false, false] rfl rfl (by kernel_rfl) (fun _ _ _ h => h) (Or.inl ⟨by rfl, ?_⟩) ?_ ?_
      rotate_left
      · intro w'
        go_simp
        with_reducible rfl
      rotate_left
      · simp only [Act.put, List.setIfInBounds_toArray, List.set_cons_zero, List.set_cons_succ, i64_w, i32_w]
        rfl
      refine pure_ (i := 24) (N := some 91) (v := ?_) (a' := ?_) #[true, true, true, true, true, true, true, true, true, true, true, true, true, true, true, true, true, true, true, true, true, true, true, true, true, false, false, false, false, false, false, false, false, false, false, false, false, false, false, false, false, false, false, false, false] rfl rfl (by kernel_rfl) (fun _ _ _ h => h) (Or.inl ⟨by rfl, ?_⟩) ?_ ?_
      rotate_left
      · intro w'
        go_simp
        with_reducible rfl
      rotate_left
      · simp only [Act.put, List.setIfInBounds_toArray, List.set_cons_zero, List.set_cons_succ, i64_w, i32_w]
        rfl
      refine take_ (i := 25) (N := some 92) (v := ?_) (a' := ?_) #[true, true, true, true, true, true, true, true, true, true, true, true, true, true, true, true, true, true, true, true, true, true, true, true, true, true, false, false, false, false, false, false, false, false, false, false, false, false, false, false, false, false, false, false, false] rfl rfl (by kernel_rfl) (fun _ _ _ h => h) (Or.inl ⟨by rfl, ?_⟩) hHeld ?_ ?_
      rotate_left
      · rintro w' ⟨s0, s1, s2, s3, s4, s5, s6, s7⟩
        refine exec_load_mid 64 (.tmp 91) ?_ b' (o' + i * 37 + 1) ?_ (hdCells ⟨x, y, HL f, cols⟩ A' c') _ s5 Tryz.underlying64 rfl ?_
        · rfl
        · rfl
        · kernel_rfl
      rotate_left
      · simp only [Act.put, List.setIfInBounds_toArray, List.set_cons_zero, List.set_cons_succ, i64_w, i32_w]
        rfl
      refine one_ (i := 26) (N := some 93) #[true, true, true, true, true, true, true, true, true, true, true, true, true, true, true, true, true, true, true, true, true, true, true, true, true, true, true, false, false, false, false, false, false, false, false, false, false, false, false, false, false, false, false, false, false] rfl rfl (by kernel_rfl) (by decide) (fun K hK => ?_)
      refine goes_ Tryz.func66 (by kernel_rfl) rfl #[.agg (hdCells ⟨x, y, HL f, cols⟩ A c).toArray, .agg (hdCells ⟨x, y, HL f, cols⟩ A' c').toArray] (by rfl) rfl rfl (by simp only [List.map_toArray, List.map_cons, List.map_nil]; rfl) ?_
      with_reducible refine (sameHd_calls' x y f cols A c A' c' wd HC1.out hc HC2.out hc').mono ?_
      rintro e we ⟨rfl, hb⟩
      refine ⟨_, rfl, ?_⟩
      have HBe := Aside0.mk hb
      clear hb
      refine hK.out _ _ ⟨pw_cell_below HBe.out p4, pw_cell_below HBe.out q4, pw_cell_below HBe.out r0, pw_cell_below HBe.out s0, range_below r1 HBe.out, range_below s1 HBe.out, pw_cell_below HBe.out r2, pw_cell_below HBe.out s2⟩ (fun hHeld => ?_)
      clear hK K
      refine norm_ (a' := ?_) ?_ ?_
      rotate_left
      · show Act.put _ (some 93) _ = _
        simp only [Act.put, List.setIfInBounds_toArray, List.set_cons_zero, List.set_cons_succ, i64_w, i32_w]
        rfl
      refine pure_ (i := 27) (N := some 94) (v := ?_) (a' := ?_) #[true, true, true, true, true, true, true, true, true, true, true, true, true, true, true, true, true, true, true, true, true, true, true, true, true, true, true, true, false, false, false, false, false, false, false, false, false, false, false, false, false, false, false, false, false] rfl rfl (by kernel_rfl) (fun _ _ _ h => h) (Or.inl ⟨by rfl, ?_⟩) ?_ ?_
      rotate_left
      · intro w'
        go_simp
        with_reducible rfl
      rotate_left
      · simp only [Act.put, List.setIfInBounds_toArray, List.set_cons_zero, List.set_cons_succ, i64_w, i32_w]
        rfl
      refine pure_ (i := 28) (N := some 95) (v := ?_) (a' := ?_) #[true, true, true, true, true, true, true, true, true, true, true, true, true, true, true, true, true, true, true, true, true, true, true, true, true, true, true, true, true, false, false, false, false, false, false, false, false, false, false, false, false, false, false, false, false] rfl rfl (by kernel_rfl) (fun _ _ _ h => h) (Or.inl ⟨by rfl, ?_⟩) ?_ ?_
      rotate_left
      · intro w'
        go_simp
        with_reducible rfl
      rotate_left
      · simp only [Act.put, List.setIfInBounds_toArray, List.set_cons_zero, List.set_cons_succ, i64_w, i32_w]
        rfl
      refine pure_ (i := 29) (N := some 96) (v := ?_) (a' := ?_) #[true, true, true, true, true, true, true, true, true, true, true, true, true, true, true, true, true, true, true, true, true, true, true, true, true, true, true, true, true, true, false, false, false, false, false, false, false, false, false, false, false, false, false, false, false] rfl rfl (by kernel_rfl) (fun _ _ _ h => h) (Or.inl ⟨by rfl, ?_⟩) ?_ ?_
      rotate_left
      · intro w'
        go_simp
        with_reducible rfl
      rotate_left
      · simp only [Act.put, List.setIfInBounds_toArray, List.set_cons_zero, List.set_cons_succ, i64_w, i32_w]
        rfl
      refine pure_ (i := 30) (N := some 97) (v := ?_) (a' := ?_) #[true, true, true, true, true, true, true, true, true, true, true, true, true, true, true, true, true, true, true, true, true, true, true, true, true, true, true, true, true, true, true, false, false, false, false, false, false, false, false, false, false, false, false, false, false] rfl rfl (by kernel_rfl) (fun _ _ _ h => h) (Or.inl ⟨by rfl, ?_⟩) ?_ ?_
      rotate_left
      · intro w'
        go_simp
        with_reducible rfl
      rotate_left
      · simp only [Act.put, List.setIfInBounds_toArray, List.set_cons_zero, List.set_cons_succ, i64_w, i32_w]
        rfl
      refine pure_ (i := 32) (N := some 99) (v := ?_) (a' := ?_) #[true, true, true, true, true, true, true, true, true, true, true, true, true, true, true, true, true, true, true, true, true, true, true, true, true, true, true, true, true, true, true, false, true, false, false, false, false, false, false, false, false, false, false, false, false] rfl rfl (by kernel_rfl) (fun _ _ _ h => h) (Or.inl ⟨by rfl, ?_⟩) ?_ ?_
      rotate_left
      · intro w'
        go_simp
        with_reducible rfl
      rotate_left
      · simp only [Act.put, List.setIfInBounds_toArray, List.set_cons_zero, List.set_cons_succ, i64_w, i32_w]
        rfl
      refine pure_ (i := 36) (N := some 103) (v := ?_) (a' := ?_) #[true, true, true, true, true, true, true, true, true, true, true, true, true, true, true, true, true, true, true, true, true, true, true, true, true, true, true, true, true, true, true, false, true, false, false, false, true, false, false, false, false, false, false, false, false] rfl rfl (by kernel_rfl) (fun _ _ _ h => h) (Or.inl ⟨by rfl, ?_⟩) ?_ ?_
      rotate_left
      · intro w'
        go_simp
        with_reducible rfl
      rotate_left
      · simp only [Act.put, List.setIfInBounds_toArray, List.set_cons_zero, List.set_cons_succ, i64_w, i32_w]
        rfl
      refine pure_ (i := 38) (N := some 105) (v := ?_) (a' := ?_) #[true, true, true, true, true, true, true, true, true, true, true, true, true, true, true, true, true, true, true, true, true, true, true, true, true, true, true, true, true, true, true, false, true, false, false, false, true, false, true, false, false, false, false, false, false] rfl rfl (by kernel_rfl) (fun _ _ _ h => h) (Or.inl ⟨by rfl, ?_⟩) ?_ ?_
      rotate_left
      · intro w'
        go_simp
        with_reducible rfl
      rotate_left
      · simp only [Act.put, List.setIfInBounds_toArray, List.set_cons_zero, List.set_cons_succ, i64_w, i32_w]
        rfl
      refine take_ (i := 31) (N := some 98) (v := ?_) (a' := ?_) #[true, true, true, true, true, true, true, true, true, true, true, true, true, true, true, true, true, true, true, true, true, true, true, true, true, true, true, true, true, true, true, true, true, false, false, false, true, false, true, false, false, false, false, false, false] rfl rfl (by kernel_rfl) (fun _ _ _ h => h) (Or.inl ⟨by rfl, ?_⟩) hHeld ?_ ?_
      rotate_left
      · rintro w' ⟨s0, s1, s2, s3, s4, s5, s6, s7⟩
        go_simp
        with_reducible rfl
      rotate_left
      · simp only [Act.put, List.setIfInBounds_toArray, List.set_cons_zero, List.set_cons_succ, i64_w, i32_w]
        rfl
      refine pure_ (i := 33) (N := some 100) (v := ?_) (a' := ?_) #[true, true, true, true, true, true, true, true, true, true, true, true, true, true, true, true, true, true, true, true, true, true, true, true, true, true, true, true, true, true, true, true, true, true, false, false, true, false, true, false, false, false, false, false, false] rfl rfl (by kernel_rfl) (fun _ _ _ h => h) (Or.inl ⟨by rfl, ?_⟩) ?_ ?_
      rotate_left
      · intro w'
        go_simp
        with_reducible rfl
      rotate_left
      · simp only [Act.put, List.setIfInBounds_toArray, List.set_cons_zero, List.set_cons_succ, i64_w, i32_w]
        rfl
      refine pure_ (i := 34) (N := some 101) (v := ?_) (a' := ?_) #[true, true, true, true, true, true, true, true, true, true, true, true, true, true, true, true, true, true, true, true, true, true, true, true, true, true, true, true, true, true, true, true, true, true, true, false, true, false, true, false, false, false, false, false, false] rfl rfl (by kernel_rfl) (fun _ _ _ h => h) (Or.inl ⟨by rfl, ?_⟩) ?_ ?_
      rotate_left
      · intro w'
        go_simp
        with_reducible rfl
      rotate_left
      · simp only [Act.put, List.setIfInBounds_toArray, List.set_cons_zero, List.set_cons_succ, i64_w, i32_w]
        rfl
      refine take_ (i := 35) (N := some 102) (v := ?_) (a' := ?_) #[true, true, true, true, true, true, true, true, true, true, true, true, true, true, true, true, true, true, true, true, true, true, true, true, true, true, true, true, true, true, true, true, true, true, true, true, true, false, true, false, false, false, false, false, false] rfl rfl (by kernel_rfl) (fun _ _ _ h => h) (Or.inl ⟨by rfl, ?_⟩) hHeld ?_ ?_
      rotate_left
      · rintro w' ⟨s0, s1, s2, s3, s4, s5, s6, s7⟩
        go_simp
        with_reducible rfl
      rotate_left
      · simp only [Act.put, List.setIfInBounds_toArray, List.set_cons_zero, List.set_cons_succ, i64_w, i32_w]
        rfl
      refine take_ (i := 37) (N := some 104) (v := ?_) (a' := ?_) #[true, true, true, true, true, true, true, true, true, true, true, true, true, true, true, true, true, true, true, true, true, true, true, true, true, true, true, true, true, true, true, true, true, true, true, true, true, true, true, false, false, false, false, false, false] rfl rfl (by kernel_rfl) (fun _ _ _ h => h) (Or.inl ⟨by rfl, ?_⟩) hHeld ?_ ?_
      rotate_left
      · rintro w' ⟨s0, s1, s2, s3, s4, s5, s6, s7⟩
        go_simp
        with_reducible rfl
      rotate_left
      · simp only [Act.put, List.setIfInBounds_toArray, List.set_cons_zero, List.set_cons_succ, i64_w, i32_w]
        rfl
      refine pure_ (i := 39) (N := some 106) (v := ?_) (a' := ?_) #[true, true, true, true, true, true, true, true, true, true, true, true, true, true, true, true, true, true, true, true, true, true, true, true, true, true, true, true, true, true, true, true, true, true, true, true, true, true, true, true, false, false, false, false, false] rfl rfl (by kernel_rfl) (fun _ _ _ h => h) (Or.inl ⟨by rfl, ?_⟩) ?_ ?_
      rotate_left
      · intro w'
        go_simp
        with_reducible rfl
      rotate_left
      · simp only [Act.put, List.setIfInBounds_toArray, List.set_cons_zero, List.set_cons_succ, i64_w, i32_w]
        rfl
      refine pure_ (i := 40) (N := some 107) (v := ?_) (a' := ?_) #[true, true, true, true, true, true, true, true, true, true, true, true, true, true, true, true, true, true, true, true, true, true, true, true, true, true, true, true, true, true, true, true, true, true, true, true, true, true, true, true, true, false, false, false, false] rfl rfl (by kernel_rfl) (fun _ _ _ h => h) (Or.inl ⟨by rfl, ?_⟩) ?_ ?_
      rotate_left
      · intro w'
        go_simp
        with_reducible rfl
      rotate_left
      · simp only [Act.put, List.setIfInBounds_toArray, List.set_cons_zero, List.set_cons_succ, i64_w, i32_w]
        rfl
      refine take_ (i := 41) (N := some 108) (v := ?_) (a' := ?_) #[true, true, true, true, true, true, true, true, true, true, true, true, true, true, true, true, true, true, true, true, true, true, true, true, true, true, true, true, true, true, true, true, true, true, true, true, true, true, true, true, true, true, false, false, false] rfl rfl (by kernel_rfl) (fun _ _ _ h => h) (Or.inl ⟨by rfl, ?_⟩) hHeld ?_ ?_
      rotate_left
      · rintro w' ⟨s0, s1, s2, s3, s4, s5, s6, s7⟩
        go_simp
        with_reducible rfl
      rotate_left
      · simp only [Act.put, List.setIfInBounds_toArray, List.set_cons_zero, List.set_cons_succ, i64_w, i32_w]
        rfl
      refine one_ (i := 42) (N := some 109) #[true, true, true, true, true, true, true, true, true, true, true, true, true, true, true, true, true, true, true, true, true, true, true, true, true, true, true, true, true, true, true, true, true, true, true, true, true, true, true, true, true, true, true, false, false] rfl rfl (by kernel_rfl) (by decide) (fun K hK => ?_)
      refine goes_ Tryz.func12 (by kernel_rfl) rfl #[.slice B dl.length d, .slice B' dl.length d'] (by rfl) rfl rfl (by simp only [List.map_toArray, List.map_cons, List.map_nil]; rfl) ?_
      with_reducible refine (estreatref01_Same.calls (dl.length + 1) B d dl B' d' dl true we (Kd.C_below HD1.out HBe.out) hd (Kd.C_below HD2.out HBe.out) hd' HDS.out).mono ?_
      rintro e wf ⟨rfl, ⟨n3, rfl⟩⟩
      refine ⟨_, rfl, ?_⟩
      have HBf := Aside0.mk (pw_below_drewN HBe.out n3)
      generalize we.drewN n3 = wf at *
      refine hK.out _ _ ⟨pw_cell_below HBf.out p4, pw_cell_below HBf.out q4, pw_cell_below HBf.out r0, pw_cell_below HBf.out s0, range_below r1 HBf.out, range_below s1 HBf.out, pw_cell_below HBf.out r2, pw_cell_below HBf.out s2⟩ (fun hHeld => ?_)
      clear hK K
      refine norm_ (a' := ?_) ?_ ?_
      rotate_left
      · show Act.put _ (some 109) _ = _
        simp only [Act.put, List.setIfInBounds_toArray, List.set_cons_zero, List.set_cons_succ, i64_w, i32_w]
        rfl
      refine pure_ (i := 43) (N := some 110) (v := ?_) (a' := ?_) #[true, true, true, true, true, true, true, true, true, true, true, true, true, true, true, true, true, true, true, true, true, true, true, true, true, true, true, true, true, true, true, true, true, true, true, true, true, true, true, true, true, true, true, true, false] rfl rfl (by kernel_rfl) (fun _ _ _ h => h) (Or.inl ⟨by rfl, ?_⟩) ?_ ?_
      rotate_left
      · intro w'
        go_simp
        with_reducible rfl
      rotate_left
      · simp only [Act.put, List.setIfInBounds_toArray, List.set_cons_zero, List.set_cons_succ, i64_w, i32_w]
        rfl
      refine pure_ (i := 44) (N := some 111) (v := ?_) (a' := ?_) #[true, true, true, true, true, true, true, true, true, true, true, true, true, true, true, true, true, true, true, true, true, true, true, true, true, true, true, true, true, true, true, true, true, true, true, true, true, true, true, true, true, true, true, true, true] rfl rfl (by kernel_rfl) (fun _ _ _ h => h) (Or.inl ⟨by rfl, ?_⟩) ?_ ?_
      rotate_left
      · intro w'
        go_simp
        with_reducible rfl
      rotate_left
      · simp only [Act.put, List.setIfInBounds_toArray, List.set_cons_zero, List.set_cons_succ, i64_w, i32_w]
        rfl
      refine done_ (by kernel_rfl) ?_
      have HBN := Aside0.mk (below_then HBD.out HBD.out.size HBf.out)
      go_wp2_with fail
      go_roundw
      case rel => exact ⟨i + 1, by omega, by go_num, HBN⟩
      case measure => simp [intOf]; omega
    · go_wp2_with fail
      have HBr := HB
      go_loopw [6] (fun v6 w' => ∃ (i : Nat), i ≤ m.entries.length ∧ v6 = .int .i64 i ∧ Aside0 (Below W0.heap.size W0 w')) (fun v _ => m.entries.length - (intOf v).toNat)
      case atStart => exact ⟨0, Nat.zero_le _, rfl, HBr⟩
      case round =>
        clear p4 q4 hlt hi HB HBr
        obtain ⟨i, hi, rfl, HB⟩ := hrel
        have p6 := pw_cell_below HB.out P6.out
        have q6 := pw_cell_below HB.out Q6.out
        by_cases hlt : i < m.entries.length
        · obtain ⟨b, o, ks, e1, hK, hcl, hmm⟩ := C_mid (HA.out.below HB.out).e zEn i hlt (by decide)
          obtain ⟨b', o', ks', e2, hK', hcl', hmm'⟩ := C_mid (HA'.out.below HB.out).e zEn i hlt (by decide)
          generalize m.entries.getD i zEn = z at *
          obtain ⟨rfl, l1, l2⟩ := kEn_open hK
          obtain ⟨rfl, _, _⟩ := kEn_open hK'
          obtain ⟨s, g, r⟩ := z
          dsimp only at hmm hmm' l1 l2
          obtain ⟨f, rfl⟩ : ∃ f, s = HL f := ⟨_, range_fn s l1⟩
          obtain ⟨h, rfl⟩ : ∃ h, r = HL h := ⟨_, range_fn r l2⟩
          have hbd : Below wr.heap.size wr wr.drew := below_drew (Below.refl _ _)
          have m1 : wr.drew.rangeAt b (o + i * 65) (enCells ⟨HL f, g, HL h⟩) := range_below hmm hbd
          have m2 : wr.drew.rangeAt b' (o' + i * 65) (enCells ⟨HL f, g, HL h⟩) := range_below hmm' hbd
          have HBD : Aside0 (Below W0.heap.size W0 wr.drew) := Aside0.mk (below_drew HB.out)
          have p6 : wr.drew.cell? ⟨w.heap.size, 6, none⟩ = some (.slice Ae m.entries.length ce) := p6
          have q6 : wr.drew.cell? ⟨w.heap.size + 1, 6, none⟩ = some (.slice Ae' m.entries.length ce') := q6
          have hnq : ∀ w : World, (binOp .neq 81 (.agg (enCells ⟨HL f, g, HL h⟩).toArray) (.agg (enCells ⟨HL f, g, HL h⟩).toArray)).run Tryz.prog w = .ok (.bool false) w := neq81 f g h
          cases e1
          cases e2
          clear hK hK' hcl hcl' hmm hmm' l1 l2 hbd
          go_wp2_with fail
          refine start_ (n := 11) (S := fun w' => w'.cell? ⟨w.heap.size, 6, none⟩ = some (.slice (some ⟨b, o, none⟩) m.entries.length ce) ∧ w'.cell? ⟨w.heap.size + 1, 6, none⟩ = some (.slice (some ⟨b', o', none⟩) m.entries.length ce') ∧ w'.rangeAt b (o + i * 65) (enCells ⟨HL f, g, HL h⟩) ∧ w'.rangeAt b' (o' + i * 65) (enCells ⟨HL f, g, HL h⟩)) (ds := []) #[false, false, false, false, false, false, false, false, false, false, false] (by kernel_rfl) rfl rfl ⟨p6, q6, m1, m2⟩ (fun hHeld => ?_)
          generalize wr.drew = wd at *
          refine pure_ (i := 0) (N := some 119) (v := ?_) (a' := ?_) #[true, false, false, false, false, false, false, false, false, false, false] rfl rfl (by kernel_rfl) (fun _ _ _ h => h) (Or.inl ⟨by rfl, ?_⟩) ?_ ?_
          rotate_left
          · intro w'
            go_simp
            with_reducible rfl
          rotate_left
          · simp only [Act.put, List.setIfInBounds_toArray, List.set_cons_zero, List.set_cons_succ, i64_w, i32_w]
            rfl
          refine pure_ (i := 2) (N := some 121) (v := ?_) (a' := ?_) #[true, false, true, false, false, false, false, false, false, false, false] rfl rfl (by kernel_rfl) (fun _ _ _ h => h) (Or.inl ⟨by rfl, ?_⟩) ?_ ?_
          rotate_left
          · intro w'
            go_simp
            with_reducible rfl
          rotate_left
          · simp only [Act.put, List.setIfInBounds_toArray, List.set_cons_zero, List.set_cons_succ, i64_w, i32_w]
            rfl
          refine pure_ (i := 5) (N := some 124) (v := ?_) (a' := ?_) #[true, false, true, false, false, true, false, false, false, false, false] rfl rfl (by kernel_rfl) (fun _ _ _ h => h) (Or.inl ⟨by rfl, ?_⟩) ?_ ?_
          rotate_left
          · intro w'
            go_simp
            with_reducible rfl
          rotate_left
          · simp only [Act.put, List.setIfInBounds_toArray, List.set_cons_zero, List.set_cons_succ, i64_w, i32_w]
            rfl
          refine pure_ (i := 7) (N := some 126) (v := ?_) (a' := ?_) #[true, false, true, false, false, true, false, true, false, false, false] rfl rfl (by kernel_rfl) (fun _ _ _ h => h) (Or.inl ⟨by rfl, ?_⟩) ?_ ?_
          rotate_left
          · intro w'
            go_simp
            with_reducible rfl
          rotate_left
          · simp only [Act.put, List.setIfInBounds_toArray, List.set_cons_zero, List.set_cons_succ, i64_w, i32_w]
            rfl
          refine take_ (i := 1) (N := some 120) (v := ?_) (a' := ?_) #[true, true, true, false, false, true, false, true, false, false, false] rfl rfl (by kernel_rfl) (fun _ _ _ h => h) (Or.inl ⟨by rfl, ?_⟩) hHeld ?_ ?_
          rotate_left
          · rintro w' ⟨s0, s1, s2, s3⟩
            go_simp
            with_reducible rfl
          rotate_left
          · simp only [Act.put, List.setIfInBounds_toArray, List.set_cons_zero, List.set_cons_succ, i64_w, i32_w]
            rfl
          refine pure_ (i := 3) (N := some 122) (v := ?_) (a' := ?_) #[true, true, true, true, false, true, false, true, false, false, false] rfl rfl (by kernel_rfl) (fun _ _ _ h => h) (Or.inl ⟨by rfl, ?_⟩) ?_ ?_
          rotate_left
          · intro w'
            go_simp
            with_reducible rfl
          rotate_left
          · simp only [Act.put, List.setIfInBounds_toArray, List.set_cons_zero, List.set_cons_succ, i64_w, i32_w]
            rfl
          refine take_ (i := 4) (N := some 123) (v := ?_) (a' := ?_) #[true, true, true, true, true, true, false, true, false, false, false] rfl rfl (by kernel_rfl) (fun _ _ _ h => h) (Or.inl ⟨by rfl, ?_⟩) hHeld ?_ ?_
          rotate_left
          · rintro w' ⟨s0, s1, s2, s3⟩
            refine exec_load_mid 81 (.tmp 122) ?_ b (o + i * 65) ?_ (enCells ⟨HL f, g, HL h⟩) _ s2 Tryz.underlying81 rfl ?_
            · rfl
            · rfl
            · kernel_rfl
          rotate_left
          · simp only [Act.put, List.setIfInBounds_toArray, List.set_cons_zero, List.set_cons_succ, i64_w, i32_w]
            rfl
          refine take_ (i := 6) (N := some 125) (v := ?_) (a' := ?_) #[true, true, true, true, true, true, true, true, false, false, false] rfl rfl (by kernel_rfl) (fun _ _ _ h => h) (Or.inl ⟨by rfl, ?_⟩) hHeld ?_ ?_
          rotate_left
          · rintro w' ⟨s0, s1, s2, s3⟩
            go_simp
            with_reducible rfl
          rotate_left
          · simp only [Act.put, List.setIfInBounds_toArray, List.set_cons_zero, List.set_cons_succ, i64_w, i32_w]
            rfl
          refine pure_ (i := 8) (N := some 127) (v := ?_) (a' := ?_) #[true, true, true, true, true, true, true, true, true, false, false] rfl rfl (by kernel_rfl) (fun _ _ _ h => h) (Or.inl ⟨by rfl, ?_⟩) ?_ ?_
          rotate_left
          · intro w'
            go_simp
            with_reducible rfl
          rotate_left
          · simp only [Act.put, List.setIfInBounds_toArray, List.set_cons_zero, List.set_cons_succ, i64_w, i32_w]
            rfl
          refine take_ (i := 9) (N := some 128) (v := ?_) (a' := ?_) #[true, true, true, true, true, true, true, true, true, true, false] rfl rfl (by kernel_rfl) (fun _ _ _ h => h) (Or.inl ⟨by rfl, ?_⟩) hHeld ?_ ?_
          rotate_left
          · rintro w' ⟨s0, s1, s2, s3⟩
            refine exec_load_mid 81 (.tmp 127) ?_ b' (o' + i * 65) ?_ (enCells ⟨HL f, g, HL h⟩) _ s3 Tryz.underlying81 rfl ?_
            · rfl
            · rfl
            · kernel_rfl
          rotate_left
          · simp only [Act.put, List.setIfInBounds_toArray, List.set_cons_zero, List.set_cons_succ, i64_w, i32_w]
            rfl
          refine pure_ (i := 10) (N := some 129) (v := ?_) (a' := ?_) #[true, true, true, true, true, true, true, true, true, true, true] rfl rfl (by kernel_rfl) (fun _ _ _ h => h) (Or.inl ⟨by rfl, ?_⟩) ?_ ?_
          rotate_left
          · intro w'
            go_simp
            with_reducible rfl
          rotate_left
          · simp only [Act.put, List.setIfInBounds_toArray, List.set_cons_zero, List.set_cons_succ, i64_w, i32_w]
            rfl
          refine done_ (by kernel_rfl) ?_
          go_wp2_with fail
          go_roundw
          case rel => exact ⟨i + 1, by omega, by go_num, HBD⟩
          case measure => simp [intOf]; omega
        · have HBE := Aside0.mk (HBB.out.trans (HB.out.mono HBB.out.size))
          go_wp2_with fail
          go_ret
          exact ⟨rfl, HBE.out⟩
end Go.Proofs.YtjmhiklmlgbifaaGreatDoor.PMan
end

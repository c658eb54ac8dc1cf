/- Texts of this proof, put into one, without what it does not use: MpI, RfA. -/
import Derived.Test.YtjmhiklmlgbifaaGreatDoorPB8
import Derived.Test.YtjmhiklmlgbifaaGreatDoorPB10
section
namespace Go.Proofs.YtjmhiklmlgbifaaGreatDoor.PMan
open Go.RowKit Go.Proofs.YtjmhiklmlgbifaaGreatDoorW.PrintWords Go.Proofs.YtjmhiklmlgbifaaGreatDoorW.PrintLast Go.Proofs.YtjmhiklmlgbifaaGreatDoorW.PrintMore
set_option linter.unusedVariables false
set_option linter.unusedSimpArgs false
def kindsL : List S123 → Int
  | [] => 0
  | c :: l => if c.f0 = 1 then kindsL l else if c.f0 = 2 then kindsL l else 11
def wayP (c : S123) : Bool := if c.f0 = 2 then (if c.f2 = (-1) then true else c.f2 == 5) else (if c.f2 ≥ (-1) then decide (c.f2 ≤ 4) else false)
def waysL : List S123 → Int
  | [] => 0
  | c :: l => if wayP c = true then waysL l else 1
def schemaP (s : List S123) : Int := if (s.length : Int) < 1 then 12 else if (s.length : Int) > 64 then 12 else if kindsL s = 0 then waysL s else kindsL s
theorem way_p (c : S123) : value_way.f c.f0 c.f1 c.f2 = some (wayP c) := by
  unfold value_way.f wayP
  split
  · split <;> rfl
  · split <;> rfl
theorem schema_l1 (s : List S123) (hb : s.length < 1000000000) : ∀ n j k, j + n = s.length → value_Schema.l1 (n + 1 + k) s (s.length : Int) (j : Int) = some (waysL (s.drop j))
  | 0, j, k, e => by
    rw [Nat.zero_add, Nat.add_comm 1 k, value_Schema.l1, if_neg (by omega), List.drop_eq_nil_of_le (by omega)]
    rfl
  | n + 1, j, k, e => by
    have hw : wrap64 ((j : Int) + 1) = ((j + 1 : Nat) : Int) := by unfold wrap64; omega
    rw [show n + 1 + 1 + k = (n + 1 + k) + 1 by omega, value_Schema.l1, if_pos (by omega), if_pos (by omega), if_pos (by omega), way_p, Option.bind_some, drop_cons s j z123 (by omega)]
    have e1 : rd_T123 s (j : Int) = s.getD j z123 := rfl
    rw [e1, waysL, hw, schema_l1 s hb n (j + 1) k (by omega)]
    split <;> rfl
theorem schema_l0 (s : List S123) (hb : s.length < 1000000000) : ∀ n j k, j + n = s.length → value_Schema.l0 (n + 1 + (s.length + 1 + k)) s s (s.length : Int) (j : Int) = some (if kindsL (s.drop j) = 0 then waysL s else kindsL (s.drop j))
  | 0, j, k, e => by
    rw [Nat.zero_add, Nat.add_comm 1 _, value_Schema.l0, if_neg (by omega), List.drop_eq_nil_of_le (by omega)]
    exact schema_l1 s hb s.length 0 k (by omega)
  | n + 1, j, k, e => by
    have hw : wrap64 ((j : Int) + 1) = ((j + 1 : Nat) : Int) := by unfold wrap64; omega
    rw [show n + 1 + 1 + (s.length + 1 + k) = (n + 1 + (s.length + 1 + k)) + 1 by omega, value_Schema.l0, if_pos (by omega), if_pos (by omega), if_pos (by omega), drop_cons s j z123 (by omega)]
    have e1 : rd_T123 s (j : Int) = s.getD j z123 := rfl
    rw [e1, kindsL, hw, schema_l0 s hb n (j + 1) k (by omega)]
    split
    · rfl
    · split <;> rfl
theorem schema_p (s : List S123) (hb : s.length < 1000000000) : value_Schema.f (s.length + 1 + (s.length + 1 + 0) + 1) s = some (schemaP s) := by
  unfold value_Schema.f schemaP
  split
  · rw [value_Schema.j0, if_pos rfl]
  · rename_i h1
    by_cases h2 : (s.length : Int) > 64
    · rw [value_Schema.j0, if_pos (decide_eq_true h2), if_pos h2]
    · rw [value_Schema.j0, if_neg (by simp; omega), if_neg h2, ← List.drop_zero (l := s)]
      have := schema_l0 s hb s.length 0 0 (by omega)
      simp only [List.drop_zero] at this ⊢
      exact this
theorem schema_calls (A0 : Option Addr) (c0 : Nat) (s : List S123) (w : World) (hr0 : Kd.C k123 w A0 s.length s) (hc0 : s.length ≤ c0) (hb : s.length < 1000000000) :
    Calls Tryz.prog 43 #[.slice A0 s.length c0] w fun e w' => e = .returned (.int .i64 (schemaP s)) ∧ Below w.heap.size w w' :=
  value_Schema.calls _ A0 c0 s _ w hr0 hc0 (schema_p s hb)
def looseL (s : List S123) : List (List S68) → Int
  | [] => 0
  | r :: l => if rowP s r = 0 then looseL s l else rowP s r
def entriesL : List En → Int
  | [] => 0
  | x :: l => if rightB x.g = true then entriesL l else 1
def rangesP (m : Mn) : Bool := (decide (0 ≤ m.gen) && decide (m.gen ≤ 1099511627776)) && ((decide (0 ≤ m.next) && decide (m.next ≤ 1099511627776)) && (decide (1 ≤ m.most) && decide (m.most ≤ 65536)))
def checkP (m : Mn) : Int :=
  if schemaP m.schema = 0 then
    if rangesP m = true then
      if groupsP m = 0 then
        if looseL m.schema m.loose = 0 then
          if (m.loose.length : Int) ≥ m.most then 12 else
          if (m.entries.length : Int) = 0 then 8 else entriesL m.entries
        else looseL m.schema m.loose
      else groupsP m
    else 5
  else schemaP m.schema
theorem within_b (a b c : Int) (q : Bool) (h : (decide (b ≤ a) && decide (a ≤ c)) = q) (w : World) : Calls Tryz.prog 44 #[.int .i64 a, .int .i64 b, .int .i64 c] w fun e w' => e = .returned (.bool q) ∧ Drawn0 w w' := by
  rw [← h]
  exact within_calls a b c w
theorem looseL_at (s : List S123) (l : List (List S68)) (j : Nat) (h : j < l.length) :
    looseL s (l.drop j) = if rowP s (rd_L6 l (j : Int)) = 0 then looseL s (l.drop (j + 1)) else rowP s (rd_L6 l (j : Int)) := by
  rw [drop_cons l j [] h, looseL]
  rfl
def zEn : En := ⟨[], 0, []⟩
theorem entriesL_at (l : List En) (j : Nat) (h : j < l.length) : entriesL (l.drop j) = if rightB (l.getD j zEn).g = true then entriesL (l.drop (j + 1)) else 1 := by
  rw [drop_cons l j zEn h, entriesL]
set_option maxHeartbeats 8000000 in
set_option maxRecDepth 100000 in
theorem check_calls (m : Mn) (As : Option Addr) (cs : Nat) (Ag : Option Addr) (cg : Nat) (Al : Option Addr) (cl : Nat) (Ae : Option Addr) (ce : Nat) (w : World) (hm : MnC w m As cs Ag cg Al cl Ae ce) (hls : m.schema.length < 1000000000) (hle : m.entries.length ≤ 1000000) :
    Calls Tryz.prog 13 #[.agg (mnCells m As cs Ag cg Al cl Ae ce)] w fun e w' => e = .returned (.int .i64 (checkP m)) ∧ Below w.heap.size w w' := by
  have HM := Aside0.mk hm
  have hbl : m.loose.length ≤ 9223372036854775807 := hm.l.2.1
  have hbe : m.entries.length ≤ 9223372036854775807 := hm.e.2.1
  clear hm
  unfold mnCells
  obtain ⟨rc, hrc⟩ : ∃ rc : Int, rc = checkP m := ⟨_, rfl⟩
  rw [← hrc]
  have HRC := Aside0.mk hrc
  clear hrc
  go_enter Tryz.func13, Tryz.ntmps13
  go_wp2_with fail
  have hx0 := heap_alloc_new w (.cells #[.int .i64 m.gen, .int .i64 m.next, .slice As m.schema.length cs, .int .i64 m.most, .slice Ag m.groups.length cg, .slice Al m.loose.length cl, .slice Ae m.entries.length ce] 27)
  have hb0 : Below w.heap.size w (w.alloc (.cells #[.int .i64 m.gen, .int .i64 m.next, .slice As m.schema.length cs, .int .i64 m.most, .slice Ag m.groups.length cg, .slice Al m.loose.length cl, .slice Ae m.entries.length ce] 27)) := below_alloc (Below.refl _ _) _
  generalize w.alloc (.cells #[.int .i64 m.gen, .int .i64 m.next, .slice As m.schema.length cs, .int .i64 m.most, .slice Ag m.groups.length cg, .slice Al m.loose.length cl, .slice Ae m.entries.length ce] 27) = W0 at *
  refine (schema_calls As cs m.schema W0 (Kd.C_below HM.out.s hb0) HM.out.hs hls).mono ?_
  rintro ev w1 ⟨rfl, hb1⟩
  have HB1 := Aside0.mk (below_call hb0 hb1)
  have HX1 := Aside0.mk ((hb1.block _ (blk_lt hx0)).trans hx0)
  clear hb1 hb0 hx0 W0
  have q0 : w1.cell? ⟨w.heap.size, 0, none⟩ = some (.int .i64 m.gen) := blk_cell HX1.out 0
  have q1 : w1.cell? ⟨w.heap.size, 1, none⟩ = some (.int .i64 m.next) := blk_cell HX1.out 1
  have q2 : w1.cell? ⟨w.heap.size, 2, none⟩ = some (.slice As m.schema.length cs) := blk_cell HX1.out 2
  have q3 : w1.cell? ⟨w.heap.size, 3, none⟩ = some (.int .i64 m.most) := blk_cell HX1.out 3
  have q4 : w1.cell? ⟨w.heap.size, 4, none⟩ = some (.slice Ag m.groups.length cg) := blk_cell HX1.out 4
  have q5 : w1.cell? ⟨w.heap.size, 5, none⟩ = some (.slice Al m.loose.length cl) := blk_cell HX1.out 5
  have q6 : w1.cell? ⟨w.heap.size, 6, none⟩ = some (.slice Ae m.entries.length ce) := blk_cell HX1.out 6
  obtain ⟨e1, he1⟩ : ∃ e1 : Int, e1 = schemaP m.schema := ⟨_, rfl⟩
  rw [← he1]
  have HE1 := Aside0.mk he1
  clear he1
  by_cases z1 : ¬ e1 = 0
  · have z1' : (e1 != 0) = true := by simpa using z1
    go_wp2
    go_ret
    exact ⟨by rw [HRC.out]; unfold checkP; rw [if_neg (by rw [← HE1.out]; simpa using z1'), HE1.out]; rfl, HB1.out⟩
  have z1 := Classical.not_not.1 z1
  subst z1
  obtain ⟨b1, hb1⟩ : ∃ b : Bool, (decide (0 ≤ m.gen) && decide (m.gen ≤ 1099511627776)) = b := ⟨_, rfl⟩
  obtain ⟨b2, hb2⟩ : ∃ b : Bool, (decide (0 ≤ m.next) && decide (m.next ≤ 1099511627776)) = b := ⟨_, rfl⟩
  obtain ⟨b3, hb3⟩ : ∃ b : Bool, (decide (1 ≤ m.most) && decide (m.most ≤ 65536)) = b := ⟨_, rfl⟩
  have hrp : rangesP m = (b1 && (b2 && b3)) := by unfold rangesP; rw [hb1, hb2, hb3]
  have HRP := Aside0.mk hrp
  have H1 := Aside0.mk hb1
  have H2 := Aside0.mk hb2
  have H3 := Aside0.mk hb3
  clear hrp hb1 hb2 hb3
  have hrng : (b1 && (b2 && b3)) = false → rc = 5 := fun h => by rw [HRC.out]; unfold checkP; rw [if_pos HE1.out.symm, if_neg (by rw [HRP.out, h]; decide)]
  cases b1 with
  | false =>
    go_wp2_with (go_at_call 44; (with_reducible refine (within_b m.gen 0 1099511627776 false H1.out _).mono ?_); rintro ev w' ⟨rfl, ⟨nd, rfl⟩⟩)
    go_ret
    exact ⟨by rw [hrng rfl]; rfl, HB1.out.trans ((pw_below_drewN (Below.refl _ _) _).mono HB1.out.size)⟩
  | true =>
  cases b2 with
  | false =>
    go_wp2_with (first | (go_at_call 44; (with_reducible refine (within_b m.gen 0 1099511627776 true H1.out _).mono ?_); rintro ev w' ⟨rfl, ⟨nd, rfl⟩⟩) | (go_at_call 44; (with_reducible refine (within_b m.next 0 1099511627776 false H2.out _).mono ?_); rintro ev w' ⟨rfl, ⟨nd2, rfl⟩⟩))
    go_ret
    exact ⟨by rw [hrng rfl]; rfl, below_call HB1.out (pw_below_drewN (Below.refl _ _) _)⟩
  | true =>
  cases b3 with
  | false =>
    go_wp2_with (first | (go_at_call 44; (with_reducible refine (within_b m.gen 0 1099511627776 true H1.out _).mono ?_); rintro ev w' ⟨rfl, ⟨nd, rfl⟩⟩) | (go_at_call 44; (with_reducible refine (within_b m.next 0 1099511627776 true H2.out _).mono ?_); rintro ev w' ⟨rfl, ⟨nd2, rfl⟩⟩) | (go_at_call 44; (with_reducible refine (within_b m.most 1 65536 false H3.out _).mono ?_); rintro ev w' ⟨rfl, ⟨nd3, rfl⟩⟩))
    go_ret
    exact ⟨by rw [hrng rfl]; rfl, below_call HB1.out (pw_below_drewN (Below.refl _ _) _)⟩
  | true =>
  go_wp2_with (first | (go_at_call 44; (with_reducible refine (within_b m.gen 0 1099511627776 true H1.out _).mono ?_); rintro ev w' ⟨rfl, ⟨nd, rfl⟩⟩) | (go_at_call 44; (with_reducible refine (within_b m.next 0 1099511627776 true H2.out _).mono ?_); rintro ev w' ⟨rfl, ⟨nd2, rfl⟩⟩) | (go_at_call 44; (with_reducible refine (within_b m.most 1 65536 true H3.out _).mono ?_); rintro ev w' ⟨rfl, ⟨nd3, rfl⟩⟩))
  have hd2 : Below w1.heap.size w1 (w1.drewN (nd + nd2 + nd3)) := pw_below_drewN (Below.refl _ _) _
  have HB2 := Aside0.mk (below_call HB1.out hd2)
  have HX2 := Aside0.mk ((hd2.block _ (blk_lt HX1.out)).trans HX1.out)
  clear q0 q1 q2 q3 q4 q5 q6
  clear hd2 hrng
  generalize w1.drewN (nd + nd2 + nd3) = W2 at *
  have hn : 0 ≤ m.next ∧ m.next ≤ 1099511627776 := by simpa using H2.out
  refine (groups_calls m As cs Ag cg Al cl Ae ce W2 (HM.out.below HB2.out) hn.1 hn.2).mono ?_
  rintro ev w3 ⟨rfl, hb3⟩
  have HB3 := Aside0.mk (below_call HB2.out hb3)
  have HX3 := Aside0.mk ((hb3.block _ (blk_lt HX2.out)).trans HX2.out)
  clear hb3 HB1 HX1
  have q0 : w3.cell? ⟨w.heap.size, 0, none⟩ = some (.int .i64 m.gen) := blk_cell HX3.out 0
  have q1 : w3.cell? ⟨w.heap.size, 1, none⟩ = some (.int .i64 m.next) := blk_cell HX3.out 1
  have q2 : w3.cell? ⟨w.heap.size, 2, none⟩ = some (.slice As m.schema.length cs) := blk_cell HX3.out 2
  have q3 : w3.cell? ⟨w.heap.size, 3, none⟩ = some (.int .i64 m.most) := blk_cell HX3.out 3
  have q4 : w3.cell? ⟨w.heap.size, 4, none⟩ = some (.slice Ag m.groups.length cg) := blk_cell HX3.out 4
  have q5 : w3.cell? ⟨w.heap.size, 5, none⟩ = some (.slice Al m.loose.length cl) := blk_cell HX3.out 5
  have q6 : w3.cell? ⟨w.heap.size, 6, none⟩ = some (.slice Ae m.entries.length ce) := blk_cell HX3.out 6
  obtain ⟨e2, he2⟩ : ∃ e2 : Int, e2 = groupsP m := ⟨_, rfl⟩
  rw [← he2]
  have HE2 := Aside0.mk he2
  clear he2
  by_cases z2 : ¬ e2 = 0
  · have z2' : (e2 != 0) = true := by simpa using z2
    go_wp2
    go_ret
    exact ⟨by rw [HRC.out]; unfold checkP; rw [if_pos HE1.out.symm, if_pos (show rangesP m = true from HRP.out), if_neg (by rw [← HE2.out]; simpa using z2'), HE2.out]; rfl, HB3.out⟩
  have z2 := Classical.not_not.1 z2
  subst z2
  have hrc3 : rc = (if looseL m.schema m.loose = 0 then (if (m.loose.length : Int) ≥ m.most then 12 else if (m.entries.length : Int) = 0 then 8 else entriesL m.entries) else looseL m.schema m.loose) := by
    rw [HRC.out]; unfold checkP; rw [if_pos HE1.out.symm, if_pos (show rangesP m = true from HRP.out), if_pos HE2.out.symm]
  have HR3 := Aside0.mk hrc3
  clear hrc3
  go_wp2_with fail
  go_loopw [41] (fun v41 w' => ∃ j : Nat, j ≤ m.loose.length ∧ v41 = .int .i64 j ∧ Aside0 (looseL m.schema (m.loose.drop j) = looseL m.schema m.loose) ∧ Aside0 (Below w.heap.size w w') ∧ Aside0 (w'.heap[w.heap.size]? = some (.cells #[.int .i64 m.gen, .int .i64 m.next, .slice As m.schema.length cs, .int .i64 m.most, .slice Ag m.groups.length cg, .slice Al m.loose.length cl, .slice Ae m.entries.length ce] 27 (0, 0)))) (fun i _ => m.loose.length - (intOf i).toNat)
  case atStart => exact ⟨0, Nat.zero_le _, rfl, ⟨rfl⟩, HB3, HX3⟩
  case round =>
    obtain ⟨j, hj, rfl, HX, HB, HH⟩ := hrel
    clear q0 q1 q2 q3 q4 q5 q6
    by_cases hlt : j < m.loose.length
    · obtain ⟨ad, A0, c0, e1, x0, hc0, hC⟩ := at_L6 (Kd.C_below HM.out.l HB.out) (j : Int) (by omega) (by omega)
      cases e1
      have hs := looseL_at m.schema m.loose j hlt
      rw [HX.out] at hs
      generalize rd_L6 m.loose (j : Int) = r at *
      rw [show ((j : Int)).toNat = j from by omega] at x0
      have HS := Aside0.mk hs
      have HC := Aside0.mk hC
      clear hs hC
      have q2 : wr.cell? ⟨w.heap.size, 2, none⟩ = some (.slice As m.schema.length cs) := blk_cell HH.out 2
      go_wp2_with fail
      refine (row_calls As cs m.schema A0 c0 r wr (Kd.C_below HM.out.s HB.out) HM.out.hs HC.out hc0).mono ?_
      rintro ev w4 ⟨rfl, hb4⟩
      have HB4 := Aside0.mk (below_call HB.out hb4)
      have HH4 := Aside0.mk ((hb4.block _ (blk_lt HH.out)).trans HH.out)
      clear hb4 q2
      obtain ⟨e3, he3⟩ : ∃ e3 : Int, e3 = rowP m.schema r := ⟨_, rfl⟩
      rw [← he3]
      have hE := HS.out
      rw [← he3] at hE
      clear he3
      by_cases z3 : ¬ e3 = 0
      · have z3' : (e3 != 0) = true := by simpa using z3
        rw [if_neg z3] at hE
        have HE := Aside0.mk hE
        have hr5 := HR3.out
        rw [HE.out, if_neg z3] at hr5
        have HR5 := Aside0.mk hr5
        clear hE hr5
        go_wp2
        go_ret
        exact ⟨by rw [HR5.out]; rfl, HB4.out⟩
      · have z3 := Classical.not_not.1 z3
        subst z3
        rw [if_pos rfl] at hE
        have HE := Aside0.mk hE
        clear hE
        go_wp2
        go_roundw
        case rel => exact ⟨j + 1, by omega, by go_num, ⟨HE.out.symm⟩, HB4, HH4⟩
        case measure => simp [intOf]; omega
    · obtain rfl : j = m.loose.length := by omega
      have hE := HX.out
      rw [List.drop_eq_nil_of_le (Nat.le_refl _)] at hE
      have hr4 := HR3.out
      rw [if_pos (show looseL m.schema m.loose = 0 from hE.symm)] at hr4
      have HR4 := Aside0.mk hr4
      clear hE hr4
      have q0 : wr.cell? ⟨w.heap.size, 0, none⟩ = some (.int .i64 m.gen) := blk_cell HH.out 0
      have q1 : wr.cell? ⟨w.heap.size, 1, none⟩ = some (.int .i64 m.next) := blk_cell HH.out 1
      have q2 : wr.cell? ⟨w.heap.size, 2, none⟩ = some (.slice As m.schema.length cs) := blk_cell HH.out 2
      have q3 : wr.cell? ⟨w.heap.size, 3, none⟩ = some (.int .i64 m.most) := blk_cell HH.out 3
      have q4 : wr.cell? ⟨w.heap.size, 4, none⟩ = some (.slice Ag m.groups.length cg) := blk_cell HH.out 4
      have q5 : wr.cell? ⟨w.heap.size, 5, none⟩ = some (.slice Al m.loose.length cl) := blk_cell HH.out 5
      have q6 : wr.cell? ⟨w.heap.size, 6, none⟩ = some (.slice Ae m.entries.length ce) := blk_cell HH.out 6
      by_cases g1 : (m.loose.length : Int) ≥ m.most
      · have hr5 := HR4.out
        rw [if_pos g1] at hr5
        have HR5 := Aside0.mk hr5
        clear hr5
        go_wp2
        go_ret
        exact ⟨by rw [HR5.out]; rfl, HB.out⟩
      by_cases g2 : (m.entries.length : Int) = 0
      · have hr5 := HR4.out
        rw [if_neg g1, if_pos g2] at hr5
        have HR5 := Aside0.mk hr5
        have g2' : ((m.entries.length : Int) == 0) = true := by simpa using g2
        clear hr5
        go_wp2
        go_ret
        exact ⟨by rw [HR5.out]; rfl, HB.out⟩
      have g2' : ((m.entries.length : Int) == 0) = false := by simpa using g2
      have hr5 := HR4.out
      rw [if_neg g1, if_neg g2] at hr5
      have HR5 := Aside0.mk hr5
      clear hr5
      go_wp2_with fail
      refine (led_new wr).mono ?_
      rintro ev w5 ⟨g, rfl, hg, hgs, hb5⟩
      have HB5 := Aside0.mk (below_call HB.out hb5)
      have HH5 := Aside0.mk ((hb5.block _ (blk_lt HH.out)).trans HH.out)
      have HGS := Aside0.mk (show w.heap.size < g from Nat.lt_of_lt_of_le (blk_lt HH.out) hgs)
      have HL5 := Aside0.mk (LedP.mk (n := 0) hg (Kd.R_nil _ _ _ _ _) (Nat.le_refl _))
      clear q0 q1 q2 q3 q4 q5 q6
      clear hg hgs hb5
      have q0 : w5.cell? ⟨w.heap.size, 0, none⟩ = some (.int .i64 m.gen) := blk_cell HH5.out 0
      have q1 : w5.cell? ⟨w.heap.size, 1, none⟩ = some (.int .i64 m.next) := blk_cell HH5.out 1
      have q2 : w5.cell? ⟨w.heap.size, 2, none⟩ = some (.slice As m.schema.length cs) := blk_cell HH5.out 2
      have q3 : w5.cell? ⟨w.heap.size, 3, none⟩ = some (.int .i64 m.most) := blk_cell HH5.out 3
      have q4 : w5.cell? ⟨w.heap.size, 4, none⟩ = some (.slice Ag m.groups.length cg) := blk_cell HH5.out 4
      have q5 : w5.cell? ⟨w.heap.size, 5, none⟩ = some (.slice Al m.loose.length cl) := blk_cell HH5.out 5
      have q6 : w5.cell? ⟨w.heap.size, 6, none⟩ = some (.slice Ae m.entries.length ce) := blk_cell HH5.out 6
      go_wp2_with fail
      go_loopw [69] (fun v69 w' => ∃ i : Nat, i ≤ m.entries.length ∧ v69 = .int .i64 i ∧ Aside0 (entriesL (m.entries.drop i) = entriesL m.entries) ∧ Aside0 (Below w.heap.size w w') ∧ Aside0 (w'.heap[w.heap.size]? = some (.cells #[.int .i64 m.gen, .int .i64 m.next, .slice As m.schema.length cs, .int .i64 m.most, .slice Ag m.groups.length cg, .slice Al m.loose.length cl, .slice Ae m.entries.length ce] 27 (0, 0))) ∧ Aside0 (LedP w' g i)) (fun i _ => m.entries.length - (intOf i).toNat)
      case atStart => exact ⟨0, Nat.zero_le _, rfl, ⟨rfl⟩, HB5, HH5, HL5⟩
      case round =>
        obtain ⟨i, hi, rfl, HY, HB6, HH6, HL6⟩ := hrel
        clear q0 q1 q2 q3 q4 q5 q6
        by_cases hit : i < m.entries.length
        · obtain ⟨b, o, ks, e1, hK, hcl, hmm⟩ := C_mid (Kd.C_below HM.out.e HB6.out) zEn i hit (by decide)
          cases e1
          have hs := entriesL_at m.entries i hit
          rw [HY.out] at hs
          generalize m.entries.getD i zEn = x at *
          obtain ⟨rfl, hxs, hxr⟩ := kEn_open hK
          rw [kEn_sz] at hmm hcl
          have hec := EC_of x hxs hxr
          have HS := Aside0.mk hs
          have HMM := Aside0.mk hmm
          have HCL := Aside0.mk hcl
          have HEC := Aside0.mk hec
          clear hs hK hcl hmm hec hxs hxr
          go_wp2_with (first | (refine wpList_load_mid rfl 81 (.tmp 71) rfl b (o + i * 65) rfl (enCells x) _ HMM.out Tryz.underlying81 rfl (by rw [HCL.out]; kernel_rfl) ?_; rw [HEC.out]) | (refine wpList_store_row rfl 81 (.tmp 10) (.tmp 72) rfl wr.heap.size (EC _ _ x.g) rfl rfl 81 _ (heap_alloc_new wr _) (by rw [EC_size]; kernel_rfl) (by rw [EC_size]; kernel_rfl) (EC_all _ _ _) ?_; rw [World.setRow_alloc_new]) | (refine wpList_load_row rfl 81 (.tmp 10) rfl wr.heap.size rfl 81 (EC _ _ x.g) (0, 0) _ (heap_alloc_new wr _) Tryz.underlying81 rfl (by rw [EC_size]; kernel_rfl) ?_))
          have hec : Below wr.heap.size wr (wr.alloc (.cells (EC (fun i => x.s.getD i 0) (fun i => x.r.getD i 0) x.g) 81)) := below_alloc (Below.refl _ _) _
          have hl7 := HL6.out.below hec
          refine (add_calls _ _ x.g g i _ hl7 (by omega)).mono ?_
          rintro ev w7 ⟨rfl, hb7, hl8⟩
          have HB7 := Aside0.mk ((below_call HB6.out hec).trans (hb7.mono (Nat.le_of_lt HGS.out)))
          have HH7 := Aside0.mk ((hb7.block _ HGS.out).trans ((hec.block _ (blk_lt HH6.out)).trans HH6.out))
          have HL8 := Aside0.mk hl8
          clear hec hl7 hb7 hl8
          have hE := HS.out
          cases hrb : rightB x.g with
          | false =>
            rw [hrb, if_neg (by decide)] at hE
            have hr6 := HR5.out
            rw [hE] at hr6
            have HR6 := Aside0.mk hr6
            clear hE hr6
            rw [if_neg (by decide)]
            go_wp2
            go_ret
            exact ⟨by rw [HR6.out]; rfl, HB7.out⟩
          | true =>
            rw [hrb, if_pos rfl] at hE
            have HE := Aside0.mk hE
            clear hE
            rw [if_pos rfl]
            go_wp2
            go_roundw
            case rel => exact ⟨i + 1, by omega, by go_num, ⟨HE.out.symm⟩, HB7, HH7, HL8⟩
            case measure => simp [intOf]; omega
        · obtain rfl : i = m.entries.length := by omega
          have hE := HY.out
          rw [List.drop_eq_nil_of_le (Nat.le_refl _)] at hE
          have hr6 := HR5.out
          rw [← hE] at hr6
          have HR6 := Aside0.mk hr6
          clear hE hr6
          go_wp2
          go_ret
          exact ⟨by rw [HR6.out]; rfl, HB6.out⟩
end Go.Proofs.YtjmhiklmlgbifaaGreatDoor.PMan
end
section
namespace Go.Proofs.YtjmhiklmlgbifaaGreatDoor.PMan
open Go.RowKit Go.Proofs.YtjmhiklmlgbifaaGreatDoorW.PrintWords Go.Proofs.YtjmhiklmlgbifaaGreatDoorW.PrintLast Go.Proofs.YtjmhiklmlgbifaaGreatDoorW.PrintMore
attribute [local go_sem] max2_int min2_int max_two min_two max_three min_three max_four min_four   -- for this text's walks alone
set_option linter.unusedVariables false
set_option linter.unusedSimpArgs false
end Go.Proofs.YtjmhiklmlgbifaaGreatDoor.PMan
end

/- Texts of this proof, put into one, without what it does not use: MpB, MpD. -/
import Derived.Test.YtjmhiklmlgbifaaGreatDoorPB4
section
namespace Go.Proofs.YtjmhiklmlgbifaaGreatDoor.PMan
open Go.RowKit Go.Proofs.YtjmhiklmlgbifaaGreatDoorW.PrintWords Go.Proofs.YtjmhiklmlgbifaaGreatDoorW.PrintLast Go.Proofs.YtjmhiklmlgbifaaGreatDoorW.PrintMore
set_option linter.unusedVariables false
set_option linter.unusedSimpArgs false
theorem drop_cons {α : Type} (l : List α) (j : Nat) (d : α) (h : j < l.length) : l.drop j = l.getD j d :: l.drop (j + 1) := by
  rw [List.drop_eq_getElem_cons h, List.getD_eq_getElem?_getD, List.getElem?_eq_getElem h]
  rfl
theorem rowL_nil (s : List S123) (r : List S68) (j : Nat) (h : r.length ≤ j) : rowL (s.drop j) (r.drop j) = 0 := by
  rw [List.drop_eq_nil_of_le h]
  cases s.drop j <;> rfl
theorem rowL_at (s : List S123) (r : List S68) (j : Nat) (h1 : j < s.length) (h2 : j < r.length) :
    rowL (s.drop j) (r.drop j) = if standsP (rd_T123 s j) (rd_T68 r j) = true then (if ((rd_T68 r j).f2.size : Int) > 65536 then 12 else rowL (s.drop (j + 1)) (r.drop (j + 1))) else 11 := by
  rw [drop_cons s j z123 h1, drop_cons r j z68 h2, rowL]
  rfl
set_option maxHeartbeats 1600000 in
set_option maxRecDepth 100000 in
theorem row_calls (A0 : Option Addr) (c0 : Nat) (s : List S123) (A1 : Option Addr) (c1 : Nat) (r : List S68) (w : World) (hr0 : Kd.C k123 w A0 s.length s) (hc0 : s.length ≤ c0) (hr1 : Kd.C k68 w A1 r.length r) (hc1 : r.length ≤ c1) :
    Calls Tryz.prog 46 #[.slice A0 s.length c0, .slice A1 r.length c1] w fun e w' => e = .returned (.int .i64 (rowP s r)) ∧ Below w.heap.size w w' := by
  have hb : r.length ≤ 9223372036854775807 := hr1.2.1
  have HR0 := Aside0.mk hr0
  have HR1 := Aside0.mk hr1
  clear hr0 hr1
  go_enter Tryz.func46, Tryz.ntmps46
  go_wp2
  · go_ret
    exact ⟨by unfold rowP; rw [if_neg (by simp_all)]; rfl, Below.refl _ _⟩
  · have hl : r.length = s.length := by
      have hq : ((r.length : Int) != (s.length : Int)) = false := by assumption
      simp at hq
      omega
    go_loopw [14] (fun v14 w' => ∃ j : Nat, j ≤ r.length ∧ v14 = .int .i64 j ∧ Aside0 (rowL (s.drop j) (r.drop j) = rowL s r) ∧ Aside0 (Below w.heap.size w w')) (fun i _ => r.length - (intOf i).toNat)
    case atStart => exact ⟨0, Nat.zero_le _, rfl, ⟨rfl⟩, ⟨Below.refl _ _⟩⟩
    case round =>
      obtain ⟨j, hj, rfl, HX, HB⟩ := hrel
      by_cases hlt : j < r.length
      · obtain ⟨ad, e1, x0, x1, x2⟩ := at_T68 (Kd.C_below HR1.out HB.out) (j : Int) (by omega) (by omega)
        obtain ⟨bd, e2, y0, y1, y2⟩ := at_T123 (Kd.C_below HR0.out HB.out) (j : Int) (by omega) (by omega)
        cases e1
        cases e2
        have hs := rowL_at s r j (by omega) hlt
        rw [HX.out] at hs
        generalize rd_T68 r (j : Int) = v at *
        generalize rd_T123 s (j : Int) = c at *
        rw [show ((j : Int)).toNat = j from by omega] at x0 x1 x2 y0 y1 y2
        have HS := Aside0.mk hs
        clear hs
        go_wp2_with fail
        have hx : (wr.alloc (.cells #[.int .i64 v.f0, .int .i64 v.f1, .string v.f2] 68)).drew.heap[wr.heap.size]? = some (.cells #[.int .i64 v.f0, .int .i64 v.f1, .string v.f2] 68 (0, 0)) := heap_alloc_new wr _
        have hbw : Below w.heap.size w (wr.alloc (.cells #[.int .i64 v.f0, .int .i64 v.f1, .string v.f2] 68)).drew := below_drew (below_alloc HB.out _)
        have y0' := pw_cell_below (below_drew (below_alloc (Below.refl wr.heap.size wr) (.cells #[.int .i64 v.f0, .int .i64 v.f1, .string v.f2] 68))) y0
        have y1' := pw_cell_below (below_drew (below_alloc (Below.refl wr.heap.size wr) (.cells #[.int .i64 v.f0, .int .i64 v.f1, .string v.f2] 68))) y1
        have y2' := pw_cell_below (below_drew (below_alloc (Below.refl wr.heap.size wr) (.cells #[.int .i64 v.f0, .int .i64 v.f1, .string v.f2] 68))) y2
        refine start_ (n := 8) (S := fun w' => w'.cell? ⟨wr.heap.size, 0, none⟩ = some (.int .i64 v.f0) ∧ w'.cell? ⟨wr.heap.size, 1, none⟩ = some (.int .i64 v.f1) ∧ w'.cell? ⟨wr.heap.size, 2, none⟩ = some (.string v.f2) ∧ w'.cell? (bd.add (j * 3)) = some (.int .i64 c.f0) ∧ w'.cell? ⟨(bd.add (j * 3)).block, (bd.add (j * 3)).off + 1, none⟩ = some (.bool c.f1) ∧ w'.cell? ⟨(bd.add (j * 3)).block, (bd.add (j * 3)).off + 2, none⟩ = some (.int .i64 c.f2)) (ds := []) #[false, false, false, false, false, false, false, false] (by kernel_rfl) rfl rfl ⟨blk_cell hx 0, blk_cell hx 1, blk_cell hx 2, y0', y1', y2'⟩ (fun hHeld => ?_)
        generalize (wr.alloc (.cells #[.int .i64 v.f0, .int .i64 v.f1, .string v.f2] 68)).drew = W2 at *
        refine pure_ (i := 0) (N := some 20) (v := ?_) (a' := ?_) #[true, false, false, false, false, false, false, false] rfl rfl (by kernel_rfl) (fun _ _ _ h => h) (Or.inl ⟨by rfl, ?_⟩) ?_ ?_
        rotate_left
        · intro w'
          go_simp
          with_reducible rfl
        rotate_left
        · simp only [Act.put, List.setIfInBounds_toArray, List.set_cons_zero, List.set_cons_succ, i64_w, i32_w]
          rfl
        refine pure_ (i := 1) (N := some 21) (v := ?_) (a' := ?_) #[true, true, false, false, false, false, false, false] rfl rfl (by kernel_rfl) (fun _ _ _ h => h) (Or.inl ⟨by rfl, ?_⟩) ?_ ?_
        rotate_left
        · intro w'
          go_simp
          with_reducible rfl
        rotate_left
        · simp only [Act.put, List.setIfInBounds_toArray, List.set_cons_zero, List.set_cons_succ, i64_w, i32_w]
          rfl
        refine pure_ (i := 2) (N := some 22) (v := ?_) (a' := ?_) #[true, true, true, false, false, false, false, false] rfl rfl (by kernel_rfl) (fun _ _ _ h => h) (Or.inl ⟨by rfl, ?_⟩) ?_ ?_
        rotate_left
        · intro w'
          go_simp
          with_reducible rfl
        rotate_left
        · simp only [Act.put, List.setIfInBounds_toArray, List.set_cons_zero, List.set_cons_succ, i64_w, i32_w]
          rfl
        refine take_ (i := 3) (N := some 23) (v := ?_) (a' := ?_) #[true, true, true, true, false, false, false, false] rfl rfl (by kernel_rfl) (fun _ _ _ h => h) (Or.inl ⟨by rfl, ?_⟩) hHeld ?_ ?_
        rotate_left
        · rintro w' ⟨s0, s1, s2, s3, s4, s5⟩
          go_simp
          with_reducible rfl
        rotate_left
        · simp only [Act.put, List.setIfInBounds_toArray, List.set_cons_zero, List.set_cons_succ, i64_w, i32_w]
          rfl
        refine take_ (i := 4) (N := some 24) (v := ?_) (a' := ?_) #[true, true, true, true, true, false, false, false] rfl rfl (by kernel_rfl) (fun _ _ _ h => h) (Or.inl ⟨by rfl, ?_⟩) hHeld ?_ ?_
        rotate_left
        · rintro w' ⟨s0, s1, s2, s3, s4, s5⟩
          go_simp
          with_reducible rfl
        rotate_left
        · simp only [Act.put, List.setIfInBounds_toArray, List.set_cons_zero, List.set_cons_succ, i64_w, i32_w]
          rfl
        refine one_ (i := 5) (N := some 25) #[true, true, true, true, true, true, false, false] rfl rfl (by kernel_rfl) (by decide) (fun K hK => ?_)
        refine goes_ Tryz.func80 (by kernel_rfl) rfl #[.agg #[.int .i64 c.f0, .bool c.f1, .int .i64 c.f2], .agg #[.int .i64 v.f0, .int .i64 v.f1, .string v.f2]] (by rfl) rfl rfl (by simp only [List.map_toArray, List.map_cons, List.map_nil]; rfl) ?_
        with_reducible refine (stands_calls c v W2).mono ?_
        rintro e w3 ⟨rfl, hb3⟩
        refine ⟨_, rfl, ?_⟩
        refine hK.out _ _ ⟨pw_cell_below hb3 (blk_cell hx 0), pw_cell_below hb3 (blk_cell hx 1), pw_cell_below hb3 (blk_cell hx 2), pw_cell_below hb3 y0', pw_cell_below hb3 y1', pw_cell_below hb3 y2'⟩ (fun hHeld => ?_)
        clear hK K
        refine norm_ (a' := ?_) ?_ ?_
        rotate_left
        · show Act.put _ (some 25) _ = _
          simp only [Act.put, List.setIfInBounds_toArray, List.set_cons_zero, List.set_cons_succ, i64_w, i32_w]
          rfl
        refine pure_ (i := 6) (N := some 26) (v := ?_) (a' := ?_) #[true, true, true, true, true, true, true, false] rfl rfl (by kernel_rfl) (fun _ _ _ h => h) (Or.inl ⟨by rfl, ?_⟩) ?_ ?_
        rotate_left
        · intro w'
          go_simp
          with_reducible rfl
        rotate_left
        · simp only [Act.put, List.setIfInBounds_toArray, List.set_cons_zero, List.set_cons_succ, i64_w, i32_w]
          rfl
        refine pure_ (i := 7) (N := some 19) (v := ?_) (a' := ?_) #[true, true, true, true, true, true, true, true] rfl rfl (by kernel_rfl) (fun _ _ _ h => h) (Or.inl ⟨by rfl, ?_⟩) ?_ ?_
        rotate_left
        · intro w'
          go_simp
          with_reducible rfl
        rotate_left
        · simp only [Act.put, List.setIfInBounds_toArray, List.set_cons_zero, List.set_cons_succ, i64_w, i32_w]
          rfl
        refine done_ (by kernel_rfl) ?_
        have q2 : w3.cell? ⟨wr.heap.size, 2, none⟩ = some (.string v.f2) := pw_cell_below hb3 (blk_cell hx 2)
        have hbw3 := Aside0.mk (hbw.trans (hb3.mono hbw.size))
        clear hx hb3 hbw
        generalize hst : standsP c v = b at *
        cases b with
        | false =>
          go_wp2
          go_ret
          have e := HS.out
          rw [if_neg (by decide)] at e
          exact ⟨by unfold rowP; rw [if_pos (by omega), ← e]; rfl, hbw3.out⟩
        | true =>
          have e := HS.out
          rw [if_pos rfl] at e
          by_cases hsz : (v.f2.size : Int) > 65536
          · rw [if_pos hsz] at e
            have E := Aside0.mk e
            clear e HS
            go_wp2
            go_ret
            exact ⟨by unfold rowP; rw [if_pos (by omega), ← E.out]; rfl, hbw3.out⟩
          · rw [if_neg hsz] at e
            have E := Aside0.mk e
            clear e HS
            go_wp2
            go_roundw
            case rel => exact ⟨j + 1, by omega, by go_num, ⟨E.out.symm⟩, hbw3⟩
            case measure => simp [intOf]; omega
      · obtain rfl : j = r.length := by omega
        go_wp2
        go_ret
        exact ⟨by unfold rowP; rw [if_pos (by omega), ← HX.out, rowL_nil _ _ _ (Nat.le_refl _)]; rfl, HB.out⟩
end Go.Proofs.YtjmhiklmlgbifaaGreatDoor.PMan
end
section
namespace Go.Proofs.YtjmhiklmlgbifaaGreatDoor.PMan
open Go.RowKit Go.Proofs.YtjmhiklmlgbifaaGreatDoorW.PrintWords Go.Proofs.YtjmhiklmlgbifaaGreatDoorW.PrintLast Go.Proofs.YtjmhiklmlgbifaaGreatDoorW.PrintMore
set_option linter.unusedVariables false
set_option linter.unusedSimpArgs false
/-- One column's row, one value's row, out of their blocks. -/
theorem col_C {w : World} {s : Nat} {x : S123} (h : w.heap[s]? = some (.cells #[.int .i64 x.f0, .bool x.f1, .int .i64 x.f2] 123 (0, 0))) : Kd.C k123 w (some ⟨s, 0, none⟩) 1 [x] := by
  refine ⟨rfl, by decide, fun _ => ⟨⟨s, 0, none⟩, rfl, fun j p hj => ?_⟩⟩
  match j, hj with
  | 0, hj =>
    obtain rfl : x = p := by simpa using hj
    refine ⟨_, rfl, k123_mk w _, fun i u hu => ?_⟩
    have := blk_cell h i
    rw [List.getElem?_toArray] at this
    rw [show (⟨s, 0, none⟩ : Addr).add (0 * k123.sz + i) = ⟨s, i, none⟩ from by unfold Addr.add; split <;> simp_all, this]
    exact hu
  | j + 1, hj => simp at hj
theorem val_C {w : World} {s : Nat} {x : S68} {t : TypeId} (h : w.heap[s]? = some (.cells #[.int .i64 x.f0, .int .i64 x.f1, .string x.f2] t (0, 0))) : Kd.C k68 w (some ⟨s, 0, none⟩) 1 [x] := by
  refine ⟨rfl, by decide, fun _ => ⟨⟨s, 0, none⟩, rfl, fun j p hj => ?_⟩⟩
  match j, hj with
  | 0, hj =>
    obtain rfl : x = p := by simpa using hj
    refine ⟨_, rfl, k68_mk w _, fun i u hu => ?_⟩
    have := blk_cell h i
    rw [List.getElem?_toArray] at this
    rw [show (⟨s, 0, none⟩ : Addr).add (0 * k68.sz + i) = ⟨s, i, none⟩ from by unfold Addr.add; split <;> simp_all, this]
    exact hu
  | j + 1, hj => simp at hj
set_option maxHeartbeats 1600000 in
set_option maxRecDepth 100000 in
/-- The closure 'right'. -/
theorem zone_right (v : S68) (kind : Int) (kp cp s : Nat) (w : World) (hk : w.cell? ⟨kp, 0, none⟩ = some (.int .i64 kind)) (hc : w.cell? ⟨cp, 0, none⟩ = some (.slice (some ⟨s, 0, none⟩) 1 1)) (hs : Kd.C k123 w (some ⟨s, 0, none⟩) 1 [⟨kind, false, 0⟩]) :
    Calls Tryz.prog 131 #[.agg #[.int .i64 v.f0, .int .i64 v.f1, .string v.f2], .pointer (some ⟨kp, 0, none⟩), .pointer (some ⟨cp, 0, none⟩)] w fun e w' => e = .returned (.bool (rightP kind v)) ∧ Below w.heap.size w w' := by
  have HS := Aside0.mk hs
  clear hs
  go_enter Tryz.func131, Tryz.ntmps131
  have hbw : Below w.heap.size w (w.alloc (.cells #[.int .i64 v.f0, .int .i64 v.f1, .string v.f2] 68)) := below_alloc (Below.refl _ _) _
  have hk' := pw_cell_below hbw hk
  have hc' := pw_cell_below hbw hc
  cases hkk : (v.f0 == kind) with
  | false =>
    go_wp2
    go_ret
    exact ⟨by unfold rightP; rw [hkk]; rfl, hbw⟩
  | true =>
    go_wp2_with fail
    have hsz : (w.alloc (.cells #[.int .i64 v.f0, .int .i64 v.f1, .string v.f2] 68)).heap.size = w.heap.size + 1 := by simp
    have hv := val_C (x := v) (heap_alloc_new (w.alloc (.cells #[.int .i64 v.f0, .int .i64 v.f1, .string v.f2] 68)) (.cells #[.int .i64 v.f0, .int .i64 v.f1, .string v.f2] 68))
    rw [hsz] at hv
    have hb2 : Below w.heap.size w ((w.alloc (.cells #[.int .i64 v.f0, .int .i64 v.f1, .string v.f2] 68)).alloc (.cells #[.int .i64 v.f0, .int .i64 v.f1, .string v.f2] 68)) := below_alloc hbw _
    refine (row_calls (some ⟨s, 0, none⟩) 1 [⟨kind, false, 0⟩] (some ⟨w.heap.size + 1, 0, none⟩) 1 [v] _ (Kd.C_below HS.out hb2) (by simp) hv (by simp)).mono ?_
    rintro e w3 ⟨rfl, hb3⟩
    have hB := Aside0.mk (below_call hb2 hb3)
    clear hb3 hb2 hv hbw
    go_wp2
    go_ret
    exact ⟨by unfold rightP; rw [hkk]; rfl, hB.out⟩
set_option maxHeartbeats 3200000 in
set_option maxRecDepth 100000 in
theorem zone_some (n : Int) (v1 v2 : S68) (rows kind : Int) (hk : kind = 1 ∨ kind = 2) (h1 : ¬ n < 0) (h2 : ¬ n > rows) (h3 : n < rows) (w : World) :
    Calls Tryz.prog 113 #[.agg #[.int .i64 n, .bool true, .int .i64 v1.f0, .int .i64 v1.f1, .string v1.f2, .int .i64 v2.f0, .int .i64 v2.f1, .string v2.f2], .int .i64 rows, .int .i64 kind] w fun e w' => e = .returned (.bool (rightP kind v1 && (rightP kind v2 && decide (cmpP v1 v2 ≤ 0)))) ∧ Below w.heap.size w w' := by
  have hd : decide (n < rows) = true := decide_eq_true h3
  have e1 : (((w.alloc (.cells #[.int .i64 n, .bool true, .int .i64 v1.f0, .int .i64 v1.f1, .string v1.f2, .int .i64 v2.f0, .int .i64 v2.f1, .string v2.f2] 70)).alloc (.cells #[.int .i64 kind] 3)).alloc (.cells #[.int .i64 kind, .bool false, .int .i64 0] 123)).heap.size = w.heap.size + 1 + 1 + 1 := by simp
  have a1 : Below w.heap.size w (w.alloc (.cells #[.int .i64 n, .bool true, .int .i64 v1.f0, .int .i64 v1.f1, .string v1.f2, .int .i64 v2.f0, .int .i64 v2.f1, .string v2.f2] 70)) := below_alloc (Below.refl _ _) _
  have b1 := heap_alloc_new w (.cells #[.int .i64 n, .bool true, .int .i64 v1.f0, .int .i64 v1.f1, .string v1.f2, .int .i64 v2.f0, .int .i64 v2.f1, .string v2.f2] 70)
  have z1 : (w.alloc (.cells #[.int .i64 n, .bool true, .int .i64 v1.f0, .int .i64 v1.f1, .string v1.f2, .int .i64 v2.f0, .int .i64 v2.f1, .string v2.f2] 70)).heap.size = w.heap.size + 1 := by simp
  obtain ⟨W1, hW1⟩ : ∃ W1, W1 = w.alloc (.cells #[.int .i64 n, .bool true, .int .i64 v1.f0, .int .i64 v1.f1, .string v1.f2, .int .i64 v2.f0, .int .i64 v2.f1, .string v2.f2] 70) := ⟨_, rfl⟩
  rw [← hW1] at e1 a1 b1 z1
  have a2 : Below W1.heap.size W1 (W1.alloc (.cells #[.int .i64 kind] 3)) := below_alloc (Below.refl _ _) _
  have b2 := heap_alloc_new W1 (.cells #[.int .i64 kind] 3)
  have z2 : (W1.alloc (.cells #[.int .i64 kind] 3)).heap.size = w.heap.size + 1 + 1 := by simp [z1]
  obtain ⟨W2, hW2⟩ : ∃ W2, W2 = W1.alloc (.cells #[.int .i64 kind] 3) := ⟨_, rfl⟩
  rw [← hW2] at e1 a2 b2 z2
  have a3 : Below W2.heap.size W2 (W2.alloc (.cells #[.int .i64 kind, .bool false, .int .i64 0] 123)) := below_alloc (Below.refl _ _) _
  have b3 := heap_alloc_new W2 (.cells #[.int .i64 kind, .bool false, .int .i64 0] 123)
  obtain ⟨W3, hW3⟩ : ∃ W3, W3 = W2.alloc (.cells #[.int .i64 kind, .bool false, .int .i64 0] 123) := ⟨_, rfl⟩
  rw [← hW3] at e1 a3 b3
  have a4 : Below W3.heap.size W3 (W3.alloc (.cells #[.slice (some ⟨w.heap.size + 1 + 1, 0, none⟩) 1 1] 22)) := below_alloc (Below.refl _ _) _
  have b4 := heap_alloc_new W3 (.cells #[.slice (some ⟨w.heap.size + 1 + 1, 0, none⟩) 1 1] 22)
  obtain ⟨W4, hW4⟩ : ∃ W4, W4 = W3.alloc (.cells #[.slice (some ⟨w.heap.size + 1 + 1, 0, none⟩) 1 1] 22) := ⟨_, rfl⟩
  rw [← hW4] at a4 b4
  rw [z1] at b2
  rw [z2] at b3
  rw [e1] at b4
  have q3 := (a4.block _ (by omega)).trans b3
  have q2 := (a4.block _ (by omega)).trans ((a3.block _ (by omega)).trans b2)
  have q1 := (a4.block _ (by omega)).trans ((a3.block _ (by omega)).trans ((a2.block _ (by omega)).trans b1))
  have HB := Aside0.mk (show Below w.heap.size w W4 from a1.trans ((a2.mono (by omega)).trans ((a3.mono (by omega)).trans (a4.mono (by omega)))))
  have Q1 := Aside0.mk q1
  have Q2 := Aside0.mk q2
  have Q4 := Aside0.mk b4
  have HC := Aside0.mk (col_C (x := ⟨kind, false, 0⟩) q3)
  have HW := Aside0.mk (hW4.trans (by rw [hW3, hW2, hW1]))
  clear q1 q2 q3 a1 a2 a3 a4 b1 b2 b3 b4 z1 z2 e1 hW1 hW2 hW3 hW4 W1 W2 W3
  rcases hk with rfl | rfl
  all_goals (
    go_enter Tryz.func113, Tryz.ntmps113
    go_wp2_with fail
    rw [← HW.out]
    refine (zone_right v1 _ (w.heap.size + 1) (w.heap.size + 1 + 1 + 1) (w.heap.size + 1 + 1) W4 (blk_cell Q2.out 0) (blk_cell Q4.out 0) HC.out).mono ?_
    rintro e w5 ⟨rfl, hb5⟩
    have HB5 := Aside0.mk (below_call HB.out hb5)
    have Q51 := Aside0.mk ((hb5.block _ (blk_lt Q1.out)).trans Q1.out)
    have Q52 := Aside0.mk ((hb5.block _ (blk_lt Q2.out)).trans Q2.out)
    have Q54 := Aside0.mk ((hb5.block _ (blk_lt Q4.out)).trans Q4.out)
    have HC5 := Aside0.mk (Kd.C_below HC.out hb5)
    clear hb5
    have p5 : w5.cell? ⟨w.heap.size, 5, none⟩ = some (.int .i64 v2.f0) := blk_cell Q51.out 5
    have p6 : w5.cell? ⟨w.heap.size, 6, none⟩ = some (.int .i64 v2.f1) := blk_cell Q51.out 6
    have p7 : w5.cell? ⟨w.heap.size, 7, none⟩ = some (.string v2.f2) := blk_cell Q51.out 7
    cases r1 : rightP _ v1 with
    | false =>
      go_wp2
      go_ret
      exact ⟨by rw [r1]; rfl, HB5.out⟩
    | true =>
      go_wp2_with fail
      refine (zone_right v2 _ (w.heap.size + 1) (w.heap.size + 1 + 1 + 1) (w.heap.size + 1 + 1) w5 (blk_cell Q52.out 0) (blk_cell Q54.out 0) HC5.out).mono ?_
      rintro e w6 ⟨rfl, hb6⟩
      have HB6 := Aside0.mk (below_call HB5.out hb6)
      have Q61 := Aside0.mk ((hb6.block _ (blk_lt Q51.out)).trans Q51.out)
      clear hb6 p5 p6 p7
      have p2 : w6.cell? ⟨w.heap.size, 2, none⟩ = some (.int .i64 v1.f0) := blk_cell Q61.out 2
      have p3 : w6.cell? ⟨w.heap.size, 3, none⟩ = some (.int .i64 v1.f1) := blk_cell Q61.out 3
      have p4 : w6.cell? ⟨w.heap.size, 4, none⟩ = some (.string v1.f2) := blk_cell Q61.out 4
      have p5 : w6.cell? ⟨w.heap.size, 5, none⟩ = some (.int .i64 v2.f0) := blk_cell Q61.out 5
      have p6 : w6.cell? ⟨w.heap.size, 6, none⟩ = some (.int .i64 v2.f1) := blk_cell Q61.out 6
      have p7 : w6.cell? ⟨w.heap.size, 7, none⟩ = some (.string v2.f2) := blk_cell Q61.out 7
      cases r2 : rightP _ v2 with
      | false =>
        go_wp2
        go_ret
        exact ⟨by rw [r1, r2]; rfl, HB6.out⟩
      | true =>
        go_wp2_with fail
        refine (cmp_calls v1 v2 w6).mono ?_
        rintro e w7 ⟨rfl, hb7⟩
        have HB7 := Aside0.mk (below_call HB6.out hb7)
        clear hb7 p2 p3 p4 p5 p6 p7
        go_wp2
        go_ret
        exact ⟨by rw [r1, r2]; rfl, HB7.out⟩)
set_option maxHeartbeats 3200000 in
set_option maxRecDepth 100000 in
theorem zone_no (n : Int) (b : Bool) (v1 v2 : S68) (rows kind : Int) (hk : b = false ∨ n < 0 ∨ n > rows ∨ (b != decide (n < rows)) = true ∨ (kind ≠ 1 ∧ kind ≠ 2)) (w : World) :
    Calls Tryz.prog 113 #[.agg #[.int .i64 n, .bool b, .int .i64 v1.f0, .int .i64 v1.f1, .string v1.f2, .int .i64 v2.f0, .int .i64 v2.f1, .string v2.f2], .int .i64 rows, .int .i64 kind] w fun e w' => e = .returned (.bool (zoneP ⟨n, b, v1, v2⟩ rows kind)) ∧ Below w.heap.size w w' := by
  have hba : ∀ a c : Obj, Below w.heap.size w ((w.alloc a).alloc c) := fun a c => below_alloc (below_alloc (Below.refl _ _) _) _
  by_cases h1 : n < 0
  · go_enter Tryz.func113, Tryz.ntmps113
    go_wp2
    go_ret
    exact ⟨by simp [zoneP, h1], hba _ _⟩
  by_cases h2 : n > rows
  · have h2' : rows < n := h2
    go_enter Tryz.func113, Tryz.ntmps113
    go_wp2
    go_ret
    exact ⟨by simp [zoneP, h2'], hba _ _⟩
  by_cases hlt : n < rows
  · have hd : decide (n < rows) = true := decide_eq_true hlt
    cases b with
    | false =>
      go_enter Tryz.func113, Tryz.ntmps113
      go_wp2
      all_goals go_ret
      exact ⟨by simp [zoneP, h1, h2, hlt], hba _ _⟩
    | true =>
      have hk' : kind ≠ 1 ∧ kind ≠ 2 := by
        rcases hk with h | h | h | h | h
        · cases h
        · exact absurd h h1
        · exact absurd h h2
        · rw [hd] at h; cases h
        · exact h
      have k1 : (kind == 1) = false := by simpa using hk'.1
      have k2 : (kind == 2) = false := by simpa using hk'.2
      have hz : zoneP ⟨n, true, v1, v2⟩ rows kind = false := by unfold zoneP; dsimp only; rw [if_neg h1, if_neg h2, if_neg (by rw [hd]; decide), if_pos rfl, k1, k2]; rfl
      rw [hz]
      go_enter Tryz.func113, Tryz.ntmps113
      go_wp2
      all_goals go_ret
      exact ⟨rfl, below_alloc (below_alloc (hba _ _) _) _⟩
  · have hd : decide (n < rows) = false := decide_eq_false hlt
    cases b with
    | true =>
      go_enter Tryz.func113, Tryz.ntmps113
      go_wp2
      all_goals go_ret
      exact ⟨by simp [zoneP, h1, h2, hlt], hba _ _⟩
    | false =>
      obtain ⟨x, hx⟩ : ∃ x : Bool, x = (zeroV v1 && zeroV v2) := ⟨_, rfl⟩
      have hz : zoneP ⟨n, false, v1, v2⟩ rows kind = x := by rw [hx]; unfold zoneP; dsimp only; rw [if_neg h1, if_neg h2, if_neg (by rw [hd]; decide), if_neg (by decide)]
      rw [hz]
      unfold zeroV at hx
      go_enter Tryz.func113, Tryz.ntmps113
      go_wp2
      all_goals go_ret
      all_goals (refine ⟨?_, hba _ _⟩; simp_all)
theorem zone_calls (z : S70) (rows kind : Int) (w : World) :
    Calls Tryz.prog 113 #[.agg #[.int .i64 z.f0, .bool z.f1, .int .i64 z.f2.f0, .int .i64 z.f2.f1, .string z.f2.f2, .int .i64 z.f3.f0, .int .i64 z.f3.f1, .string z.f3.f2], .int .i64 rows, .int .i64 kind] w fun e w' => e = .returned (.bool (zoneP z rows kind)) ∧ Below w.heap.size w w' := by
  obtain ⟨n, b, v1, v2⟩ := z
  by_cases h : b = false ∨ n < 0 ∨ n > rows ∨ (b != decide (n < rows)) = true ∨ (kind ≠ 1 ∧ kind ≠ 2)
  · exact zone_no n b v1 v2 rows kind h w
  · have hb : b = true := by
      cases b with
      | true => rfl
      | false => exact absurd (.inl rfl) h
    subst hb
    have h3 : decide (n < rows) = true := by
      cases hd : decide (n < rows) with
      | true => rfl
      | false => exact absurd (.inr (.inr (.inr (.inl (by rw [hd]; rfl))))) h
    have h4 : n < rows := of_decide_eq_true h3
    have h1 : ¬ n < 0 := fun q => h (.inr (.inl q))
    have h2 : ¬ n > rows := fun q => h (.inr (.inr (.inl q)))
    have hk : kind = 1 ∨ kind = 2 := by
      by_cases k1 : kind = 1
      · exact .inl k1
      · by_cases k2 : kind = 2
        · exact .inr k2
        · exact absurd (.inr (.inr (.inr (.inr ⟨k1, k2⟩)))) h
    have hz : zoneP ⟨n, true, v1, v2⟩ rows kind = (rightP kind v1 && (rightP kind v2 && decide (cmpP v1 v2 ≤ 0))) := by
      unfold zoneP
      dsimp only
      rw [if_neg h1, if_neg h2, if_neg (by rw [h3]; decide), if_pos rfl]
      rcases hk with rfl | rfl <;> rfl
    rw [hz]
    exact zone_some n v1 v2 rows kind hk h1 h2 h4 w
end Go.Proofs.YtjmhiklmlgbifaaGreatDoor.PMan
end

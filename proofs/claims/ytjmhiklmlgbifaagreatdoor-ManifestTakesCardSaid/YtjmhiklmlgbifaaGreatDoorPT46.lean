/- Texts, put into one. -/
import Derived.Test.YtjmhiklmlgbifaaGreatDoorPT42
import Derived.Test.YtjmhiklmlgbifaaGreatDoorPT45
import Derived.Test.YtjmhiklmlgbifaaGreatDoorPTW
set_option linter.unusedVariables false
set_option linter.unusedSimpArgs false
open Go Go.RowKit Go.Proofs.YtjmhiklmlgbifaaGreatDoorW.PrintWords Go.Proofs.YtjmhiklmlgbifaaGreatDoorW.PrintLast Go.Proofs.YtjmhiklmlgbifaaGreatDoorW.PrintMore
namespace Go.Proofs.YtjmhiklmlgbifaaGreatDoor.PMan
section
theorem size_alloc (w : World) (o : Obj) : (w.alloc o).heap.size = w.heap.size + 1 := by simp
set_option maxHeartbeats 16000000 in
set_option maxRecDepth 100000 in
theorem sameHd_calls (x y : Int) (f : Nat → Int) (cols : List CH) (A : Option Addr) (c : Nat) (A' : Option Addr) (c' : Nat) (w : World) (h1 : kCH.C w A cols.length cols) (hc1 : cols.length ≤ c) (h2 : kCH.C w A' cols.length cols) (hc2 : cols.length ≤ c') :
  Calls Tryz.prog 66 #[.agg (HC x y f A cols.length c), .agg (HC x y f A' cols.length c')] w fun e w' => e = .returned (.bool true) ∧ Below w.heap.size w w' := by
 have hbl : cols.length ≤ 9223372036854775807 := h1.2.1
 have hne := neq61 f
 have hx1 := heap_alloc_new w (.cells (HC x y f A cols.length c) 64)
 have hs1 : (w.alloc (.cells (HC x y f A cols.length c) 64)).heap.size = w.heap.size + 1 := size_alloc _ _
 have hb1 : Below w.heap.size w (w.alloc (.cells (HC x y f A cols.length c) 64)) := below_alloc (Below.refl _ _) _
 have hb2 : Below (w.heap.size + 1) (w.alloc (.cells (HC x y f A cols.length c) 64)) ((w.alloc (.cells (HC x y f A cols.length c) 64)).alloc (.cells (HC x y f A' cols.length c') 64)) := hs1 ▸ below_alloc (Below.refl _ _) _
 have hx2 := heap_alloc_new (w.alloc (.cells (HC x y f A cols.length c) 64)) (.cells (HC x y f A' cols.length c') 64)
 rw [hs1] at hx2
 have hx1' := (hb2.block w.heap.size (by omega)).trans hx1
 have hbb : Below w.heap.size w ((w.alloc (.cells (HC x y f A cols.length c) 64)).alloc (.cells (HC x y f A' cols.length c') 64)) := hb1.trans (hb2.mono (by omega))
 have H1 := am hx1'
 have H2 := am hx2
 have HBB := am hbb
 have HA := am (Kd.C_below h1 hbb)
 have HA' := am (Kd.C_below h2 hbb)
 have p0 := (blk_cell hx1' 0).trans (show (HC x y f A cols.length c)[0]? = some (.int .i64 x) from by kernel_rfl)
 have q0 := (blk_cell hx2 0).trans (show (HC x y f A' cols.length c')[0]? = some (.int .i64 x) from by kernel_rfl)
 have p1 := (blk_cell hx1' 1).trans (show (HC x y f A cols.length c)[1]? = some (.int .i64 y) from by kernel_rfl)
 have q1 := (blk_cell hx2 1).trans (show (HC x y f A' cols.length c')[1]? = some (.int .i64 y) from by kernel_rfl)
 have p34 := (blk_cell hx1' 34).trans (HC_34 x y f A cols.length c)
 have q34 := (blk_cell hx2 34).trans (HC_34 x y f A' cols.length c')
 have HR1 := am (range_of (pre := [.int .i64 x, .int .i64 y]) (cs := hashCells (HL f)) (post := [.slice A cols.length c]) hx1' 2 rfl)
 have HR2 := am (range_of (pre := [.int .i64 x, .int .i64 y]) (cs := hashCells (HL f)) (post := [.slice A' cols.length c']) hx2 2 rfl)
 clear hx1 hs1 hb1 hb2 hx2 hx1' hbb h1 h2
 go_enter Tryz.func66, Tryz.ntmps66
 go_wp2_with (first | (refine gate_guard (by rfl) ?_; dsimp only; refine wpList_load_mid rfl 61 (.tmp 19) rfl w.heap.size 2 rfl (hashCells (HL f)) _ HR1.out Tryz.underlying61 rfl (by kernel_rfl) ?_) | (refine gate_guard (by rfl) ?_; dsimp only; refine wpList_load_mid rfl 61 (.tmp 21) rfl (w.heap.size + 1) 2 rfl (hashCells (HL f)) _ HR2.out Tryz.underlying61 rfl (by kernel_rfl) ?_))
 clear hne p0 q0 p1 q1 HR1 HR2
 generalize (w.alloc (.cells (HC x y f A cols.length c) 64)).alloc (.cells (HC x y f A' cols.length c') 64) = W0 at *
 have P34 := am p34
 have Q34 := am q34
 clear p34 q34
 go_loopw [5] (fun v5 w' => ∃ (i : Nat), i ≤ cols.length ∧ v5 = .int .i64 i ∧ Aside0 (Below W0.heap.size W0 w')) (fun v _ => cols.length - (intOf v).toNat)
 case atStart => exact ⟨0, Nat.zero_le _, rfl, ⟨Below.refl _ _⟩⟩
 case round =>
  obtain ⟨i, hi, rfl, HB⟩ := hrel
  have p34 := pw_cell_below HB.out P34.out
  have q34 := pw_cell_below HB.out Q34.out
  by_cases hlt : i < cols.length
  ·obtain ⟨b, o, cs, e1, hK, hcl, hmm⟩ := C_mid HA.out zCH i hlt (by decide)
   obtain ⟨b', o', cs', e2, hK', hcl', hmm'⟩ := C_mid HA'.out zCH i hlt (by decide)
   generalize cols.getD i zCH = z at *
   obtain ⟨rfl, hl1⟩ := kCH_open hK
   obtain ⟨rfl, _⟩ := kCH_open hK'
   obtain ⟨zz, zh⟩ := z
   dsimp only at hmm hmm' hl1 hcl hcl'
   obtain ⟨g, rfl⟩ : ∃ g, zh = HL g := ⟨_, range_fn zh hl1⟩
   have m1 : wr.drew.rangeAt b (o + i * 40) (chCells zz g) := range_below hmm (below_drew HB.out)
   have m2 : wr.drew.rangeAt b' (o' + i * 40) (chCells zz g) := range_below hmm' (below_drew HB.out)
   have HBD : Aside0 (Below W0.heap.size W0 wr.drew) := am (below_drew HB.out)
   have p34 : wr.drew.cell? ⟨w.heap.size, 34, none⟩ = some (.slice A cols.length c) := p34
   have q34 : wr.drew.cell? ⟨w.heap.size + 1, 34, none⟩ = some (.slice A' cols.length c') := q34
   subst e1 e2
   clear hK hK' hcl hcl' hmm hmm' hl1 HA HA' HB
   have hnq := neq72 zz g
   go_wp2_with fail
   refine start_ (n := 11) (S := fun w' => w'.cell? ⟨w.heap.size, 34, none⟩ = some (.slice (some ⟨b, o, none⟩) cols.length c) ∧ w'.cell? ⟨w.heap.size + 1, 34, none⟩ = some (.slice (some ⟨b', o', none⟩) cols.length c') ∧ w'.rangeAt b (o + i * 40) (chCells zz g) ∧ w'.rangeAt b' (o' + i * 40) (chCells zz g)) (ds := []) #[false, false, false, false, false, false, false, false, false, false, false] (by kernel_rfl) rfl rfl ⟨p34, q34, m1, m2⟩ (fun hHeld => ?_)
   generalize wr.drew = wd at *
   refine pu 0 (some 41) ?_ ?_ ?_ ?_ ?_
   rotate_left 2
   ·intro w'
    go_simp
    with_reducible rfl
   ·simp only [Act.put, sA1, sA2, sA3, i64_w, i32_w]
    rfl
   refine pu 2 (some 43) ?_ ?_ ?_ ?_ ?_
   rotate_left 2
   ·intro w'
    go_simp
    with_reducible rfl
   ·simp only [Act.put, sA1, sA2, sA3, i64_w, i32_w]
    rfl
   refine pu 5 (some 46) ?_ ?_ ?_ ?_ ?_
   rotate_left 2
   ·intro w'
    go_simp
    with_reducible rfl
   ·simp only [Act.put, sA1, sA2, sA3, i64_w, i32_w]
    rfl
   refine pu 7 (some 48) ?_ ?_ ?_ ?_ ?_
   rotate_left 2
   ·intro w'
    go_simp
    with_reducible rfl
   ·simp only [Act.put, sA1, sA2, sA3, i64_w, i32_w]
    rfl
   refine tk 1 (some 42) ?_ ?_ hHeld ?_ ?_ ?_
   rotate_left 2
   ·rintro w' ⟨s0, s1, s2, s3⟩
    go_simp
    with_reducible rfl
   ·simp only [Act.put, sA1, sA2, sA3, i64_w, i32_w]
    rfl
   refine pu 3 (some 44) ?_ ?_ ?_ ?_ ?_
   rotate_left 2
   ·intro w'
    go_simp
    with_reducible rfl
   ·simp only [Act.put, sA1, sA2, sA3, i64_w, i32_w]
    rfl
   refine tk 4 (some 45) ?_ ?_ hHeld ?_ ?_ ?_
   rotate_left 2
   ·rintro w' ⟨s0, s1, s2, s3⟩
    refine exec_load_mid 72 (.tmp 44) ?_ b (o + i * 40) ?_ (chCells zz g) _ s2 Tryz.underlying72 rfl ?_
    ·rfl
    ·rfl
    ·kernel_rfl
   ·simp only [Act.put, sA1, sA2, sA3, i64_w, i32_w]
    rfl
   refine tk 6 (some 47) ?_ ?_ hHeld ?_ ?_ ?_
   rotate_left 2
   ·rintro w' ⟨s0, s1, s2, s3⟩
    go_simp
    with_reducible rfl
   ·simp only [Act.put, sA1, sA2, sA3, i64_w, i32_w]
    rfl
   refine pu 8 (some 49) ?_ ?_ ?_ ?_ ?_
   rotate_left 2
   ·intro w'
    go_simp
    with_reducible rfl
   ·simp only [Act.put, sA1, sA2, sA3, i64_w, i32_w]
    rfl
   refine tk 9 (some 50) ?_ ?_ hHeld ?_ ?_ ?_
   rotate_left 2
   ·rintro w' ⟨s0, s1, s2, s3⟩
    refine exec_load_mid 72 (.tmp 49) ?_ b' (o' + i * 40) ?_ (chCells zz g) _ s3 Tryz.underlying72 rfl ?_
    ·rfl
    ·rfl
    ·kernel_rfl
   ·simp only [Act.put, sA1, sA2, sA3, i64_w, i32_w]
    rfl
   refine pu 10 (some 51) ?_ ?_ ?_ ?_ ?_
   rotate_left 2
   ·intro w'
    go_simp
    with_reducible rfl
   ·simp only [Act.put, sA1, sA2, sA3, i64_w, i32_w]
    rfl
   refine done_ (by kernel_rfl) ?_
   go_wp2_with fail
   go_roundw
   case rel => exact ⟨i + 1, by omega, by go_num, HBD⟩
   case measure => simp [intOf]; omega
  ·have HBR := am (HBB.out.trans (HB.out.mono HBB.out.size))
   go_wp2_with fail
   go_ret
   exact ⟨rfl, HBR.out⟩
end
section
theorem App.one (w : World) (x : Int) : App w (w.alloc (.cells #[.int .u8 x] 5)) (.slice (some ⟨w.heap.size, 0, none⟩) 1 1) [x] := by
 refine ⟨below_alloc (Below.refl _ _) _, fun k hk => trivial, [.int .u8 x], ?_, Reps.one (show Kd.M (Kd.int .u8) _ _ _ x [.int .u8 x] from rfl) (Reps.none _ _)⟩
 have h2 := World.ownsRow_lit (base := w.heap.size) (e := 5) (size := 1) w #[.int .u8 x] 1 (Nat.le_refl _) (by decide) rfl
 show World.ownsRow _ w.heap.size 5 1 _ _ _
 simpa using h2
end
section
theorem range_part {w : World} {b o : Nat} {pre cs post : List Value} (h : w.rangeAt b o (pre ++ (cs ++ post))) (n : Nat) (hn : n = o + pre.length) : w.rangeAt b n cs := by
 intro j v hj
 subst hn
 have hl := (List.getElem?_eq_some_iff.1 hj).1
 have := h (pre.length + j) v (by rw [List.getElem?_append_right (by omega), Nat.add_sub_cancel_left, List.getElem?_append_left hl, hj])
 rwa [← Nat.add_assoc] at this
end
end Go.Proofs.YtjmhiklmlgbifaaGreatDoor.PMan

-- Printed for this claim by a program of this session's own (it runs the kit's print another way): Lean checks it.
import Derived.Test.YtdabdhimidfofaaPCrcSumsx0
namespace Go.Proofs.Ytdabdhimidfofaa.PCrcSums
open Go.RowKit Go.Proofs.YtdabdhimidfofaaW.PrintWords Go.Proofs.YtdabdhimidfofaaW.PrintLast Go.Proofs.YtdabdhimidfofaaW.PrintMore
attribute [local go_sem] max2_int min2_int max_two min_two max_three min_three max_four min_four   -- for this text's walks alone
set_option linter.unusedVariables false
set_option linter.unusedSimpArgs false

-- NOT PRINTED: function 14 (crc_reckon)

-- NOT PRINTED: function 12 (crc_table)

/-! ### crc_More: function 7 -/
theorem crc_info : (Try.prog.info? 34).map (fun i => (i.zero, i.size)) = some (some (.agg (Array.replicate 256 (.int .u32 0))), 256) := by kernel_rfl

/-- One bit of the remainder. -/
def crc_bit (v : Int) : Int := if Go.bits .and .u32 v 1 = 1 then Go.bits .xor .u32 (v / 2) 3988292384 else v / 2
def crc_bits : Nat → Int → Int
  | 0, v => v
  | n + 1, v => crc_bit (crc_bits n v)
def crc_cells (k : Nat) : Array Value := Array.ofFn (n := 256) (fun j => .int .u32 (if j.val < k then crc_bits 8 j.val else 0))
theorem crc_cells_zero : crc_cells 0 = Array.replicate 256 (.int .u32 0) := by
  apply Array.ext
  · simp [crc_cells]
  · intro i h1 h2
    simp [crc_cells]
theorem crc_cells_succ (k : Nat) : (crc_cells k).setIfInBounds k (.int .u32 (crc_bits 8 k)) = crc_cells (k + 1) := by
  apply Array.ext
  · simp [crc_cells]
  · intro i h1 h2
    have h3 : i < (crc_cells k).size := by simpa using h1
    rw [Array.getElem_setIfInBounds h3]
    simp only [crc_cells, Array.getElem_ofFn]
    by_cases e : k = i
    · subst e
      simp
    · rw [if_neg e]
      by_cases l : i < k
      · rw [if_pos l, if_pos (by omega)]
      · rw [if_neg l, if_neg (by omega)]

theorem below_setRow {B : Nat} {a w : World} (h : Below B a w) {g : Nat} {cs : Array Value} (hg : B ≤ g) : Below B a (w.setRow g cs) :=
  ⟨h.os, h.tape, h.output, by rw [size_setRow]; exact h.size, fun i hi => (setRow_other w g i cs (by omega)).trans (h.block i hi)⟩
theorem crc_cells_size (k : Nat) : (crc_cells k).size = 256 := by simp [crc_cells]
theorem crc_cells_one (k : Nat) : (crc_cells k).all (·.oneCell') = true := by
  rw [Array.all_eq_true]
  intro i h
  simp [crc_cells, Value.oneCell']
set_option maxHeartbeats 400000 in
set_option maxRecDepth 100000 in
theorem crc_reckon_calls (w : World) :
    Calls Try.prog 14 #[] w fun e w' => e = .returned (.agg (crc_cells 256)) ∧ Below w.heap.size w w' := by
  have hz := (zero_of_info crc_info).1
  go_enter Try.func14, Try.ntmps14
  go_wp2
  go_loopw [4] (fun v4 w' => ∃ (k : Nat) (c : Array Value), k ≤ 256 ∧ v4 = .int .i64 k ∧ w' = (w.alloc (Obj.cells (Array.replicate 256 (Value.int IntKind.u32 0)) 34)).alloc (Obj.cells c 34) ∧ Aside0 (c = crc_cells k)) (fun i _ => 256 - (intOf i).toNat)
  case atStart => exact ⟨0, _, by omega, rfl, rfl, ⟨by rw [crc_cells_zero]⟩⟩
  case round =>
    obtain ⟨k, c, hk, rfl, rfl, HC⟩ := hrel
    by_cases hlt : k < 256
    · obtain ⟨cv, hcv⟩ : ∃ cv, c[k]? = some cv := ⟨_, Array.getElem?_eq_getElem (by rw [HC.out, crc_cells_size]; exact hlt)⟩
      go_wp2
      go_loop [3, 9] (fun v n => ∃ (j : Nat) (x : Int), j ≤ 8 ∧ n = .int .i64 j ∧ v = .int .u32 x ∧ Aside0 (x = crc_bits j k)) (fun _ i => 8 - (intOf i).toNat)
      case atStart => exact ⟨0, k, by omega, rfl, by go_num, ⟨rfl⟩⟩
      case round =>
        obtain ⟨j, v, hj, rfl, rfl, HV⟩ := hrel
        by_cases hj8 : j < 8
        · have hs : crc_bits (j + 1) k = crc_bit v := by rw [HV.out]; rfl
          unfold crc_bit at hs
          by_cases hb : Go.bits .and .u32 v 1 = 1
          · rw [if_pos hb] at hs
            have HS := Aside0.mk hs
            have hb1 : (Go.bits .and .u32 v 1 == 1) = true := by simpa using hb
            clear hs hb
            go_wp2
            go_round
            case rel => exact ⟨j + 1, _, by omega, by go_num, rfl, ⟨HS.out.symm⟩⟩
            case measure => simp [intOf]; omega
          · rw [if_neg hb] at hs
            have HS := Aside0.mk hs
            have hb1 : (Go.bits .and .u32 v 1 == 1) = false := by simpa using hb
            clear hs hb
            go_wp2
            go_round
            case rel => exact ⟨j + 1, _, by omega, by go_num, rfl, ⟨HS.out.symm⟩⟩
            case measure => simp [intOf]; omega
        · go_wp2
          go_roundw
          case rel =>
            obtain rfl : j = 8 := by omega
            obtain rfl := HC.out
            refine ⟨k + 1, _, by omega, by go_num, ?_, ⟨crc_cells_succ k⟩⟩
            rw [← HV.out]
          case measure => simp [intOf]; omega
    · obtain rfl : k = 256 := by omega
      have hcs : c.size = 256 := by rw [HC.out]; exact crc_cells_size 256
      have hone : c.all (·.oneCell') = true := by rw [HC.out]; exact crc_cells_one 256
      have hcs1 : c.all (·.oneCell') = true := hone
      have hin := (zero_of_info crc_info).2
      have h0 := heap_alloc2_old w (Obj.cells (Array.replicate 256 (Value.int IntKind.u32 0)) 34) (Obj.cells c 34)
      have h1 := heap_alloc2_new w (Obj.cells (Array.replicate 256 (Value.int IntKind.u32 0)) 34) (Obj.cells c 34)
      have HL := Aside0.mk h1
      have HS := Aside0.mk h0
      have HI := Aside0.mk hin
      have HCS := Aside0.mk hcs
      have HC1 := Aside0.mk hcs1
      clear h0 h1 hin hcs hcs1 hone
      go_wp2_with (first | (refine wpList_load_row rfl 34 _ rfl (w.heap.size + 1) rfl 34 c (0, 0) _ HL.out Try.underlying34 rfl (by rw [HI.out, HCS.out]) ?_) | (refine wpList_store_row rfl 34 _ _ rfl w.heap.size c rfl rfl 34 _ HS.out (by rw [HI.out, HCS.out]) (by rw [HCS.out, Array.size_replicate]) HC1.out ?_))
      refine bodyPost_ret (v := .agg c) ?_ rfl ⟨by rw [HC.out], ?_⟩
      · refine results_cell_row rfl _ _ w.heap.size 34 c (0, 0) _ rfl ?_ Try.underlying34 rfl (by rw [HI.out, HCS.out])
        exact setRow_heap _ _ _ _ _ _ HS.out
      · exact below_setRow (((Below.refl _ _).alloc (Nat.le_refl _) _).alloc (by simp) _) (Nat.le_refl _)

set_option maxHeartbeats 400000 in
set_option maxRecDepth 100000 in
theorem crc_table_calls (w : World) :
    Calls Try.prog 12 #[] w fun e w' => e = .returned (.agg (crc_cells 256)) ∧ Below w.heap.size w w' := by
  have hz := (zero_of_info crc_info).1
  have hcs : (crc_cells 256).size = 256 := crc_cells_size 256
  have hone : (crc_cells 256).all (·.oneCell') = true := crc_cells_one 256
  obtain ⟨c, hc⟩ : ∃ c, c = crc_cells 256 := ⟨_, rfl⟩
  rw [← hc] at hcs hone
  have HC := Aside0.mk hc
  have HCS := Aside0.mk hcs
  have HC1 := Aside0.mk hone
  have HI := Aside0.mk (zero_of_info crc_info).2
  clear hc hcs hone
  go_enter Try.func12, Try.ntmps12
  go_wp2_with fail
  refine (crc_reckon_calls _).mono ?_
  rintro e w1 ⟨he, hb⟩
  rw [← HC.out] at he
  subst he
  have hz1 : w.heap.size < w1.heap.size := by have := hb.size; simp at this; omega
  have hg := Aside0.mk ((hb.block w.heap.size (by simp)).trans (heap_alloc_new w (Obj.cells (Array.replicate 256 (Value.int IntKind.u32 0)) 34)))
  have hb' : Below w.heap.size w w1 := ((Below.refl w.heap.size w).alloc (Nat.le_refl _) _).trans (hb.mono (by simp))
  have HB := Aside0.mk hb'
  clear hb hb'
  go_wp2_with (refine wpList_store_row rfl 34 _ _ rfl w.heap.size c rfl rfl 34 _ hg.out (by rw [HI.out, HCS.out]) (by rw [HCS.out, Array.size_replicate]) HC1.out ?_)
  refine bodyPost_ret (v := .agg c) ?_ rfl ⟨by rw [HC.out], ?_⟩
  · exact results_cell_row rfl _ _ w.heap.size 34 c (0, 0) _ rfl (setRow_heap _ _ _ _ _ _ hg.out) Try.underlying34 rfl (by rw [HI.out, HCS.out])
  · exact below_setRow HB.out (Nat.le_refl _)

/-- An element of an array by value. -/
theorem run_index_agg {P : Program} {t e : TypeId} {n : Nat} {cs : Array Value} {k : IntKind} {i : Int} {v : Value} (h : P.underlying t = some (.array n e)) (h0 : 0 ≤ i) (h1 : i < n) (hv : cs[i.toNat]? = some v) (hs : ∀ w, (sizeOf e).run P w = .ok 1 w) (ha : ∀ w, (isAgg e).run P w = .ok false w) (w : World) :
    (Instr.index t (.agg cs) (.int k i)).run P w = .ok v w := by
  simp [Instr.index, run_underlying h, asIntOf, h0, h1, hv, hs, ha, go_sem]
def crc_step (v c : Int) : Int := Go.bits .xor .u32 (v / 256) (crc_bits 8 (Go.bits .xor .u8 (v % 256) c))
def crc_More.f (a0 : Int) (l1 : List Int) : Option Int := some (Go.bits .xor .u32 IntKind.u32.max (l1.foldl crc_step (Go.bits .xor .u32 IntKind.u32.max a0)))
theorem crc_byte (a b : Int) : 0 ≤ Go.bits .xor .u8 a b ∧ Go.bits .xor .u8 a b < 256 := by
  unfold Go.bits
  simp only [IntKind.wrap_u8]
  omega
theorem crc_at (a b : Int) : (crc_cells 256)[(Go.bits .xor .u8 a b).toNat]? = some (.int .u32 (crc_bits 8 (Go.bits .xor .u8 a b))) := by
  have h := crc_byte a b
  generalize Go.bits .xor .u8 a b = x at *
  have hx : x.toNat < 256 := by omega
  have hi : ((x.toNat : Nat) : Int) = x := by omega
  rw [Array.getElem?_eq_getElem (by rw [crc_cells_size]; exact hx)]
  simp only [crc_cells, Array.getElem_ofFn]
  rw [if_pos hx, hi]
set_option maxHeartbeats 400000 in
set_option maxRecDepth 100000 in
theorem crc_More.calls (a0 : Int) (A1 : Option Addr) (c1 : Nat) (l1 : List Int) (r : Int) (w : World) (hr1 : Kd.C (Kd.int .u8) w A1 l1.length l1) (hc1 : l1.length ≤ c1) (h : crc_More.f a0 l1 = some r) :
    Calls Try.prog 7 #[.int .u32 a0, .slice A1 l1.length c1] w fun e w' => e = .returned (.int .u32 r) ∧ Below w.heap.size w w' := by
  have H := Aside0.mk (Option.some.inj h)
  have HR := Aside0.mk hr1
  have HM := Aside0.mk (Kd.C_max hr1)
  have HC1 := Aside0.mk hc1
  obtain ⟨c, hc⟩ : ∃ c, c = crc_cells 256 := ⟨_, rfl⟩
  have HC := Aside0.mk hc
  clear hr1 hc1 hc h
  go_enter Try.func7, Try.ntmps7
  go_wp2
  go_loopw [5, 12] (fun v5 i w' => ∃ (k : Nat) (x : Int), k ≤ l1.length ∧ i = .int .i64 k ∧ v5 = .int .u32 x ∧ Aside0 (x = (l1.take k).foldl crc_step (Go.bits .xor .u32 IntKind.u32.max a0)) ∧ Aside0 (Below w.heap.size w w')) (fun _ i _ => l1.length - (intOf i).toNat)
  case atStart => exact ⟨0, _, Nat.zero_le _, rfl, rfl, ⟨rfl⟩, ⟨Below.refl _ _⟩⟩
  case round =>
    obtain ⟨k, x, hk, rfl, rfl, HX, HB⟩ := hrel
    have hm : l1.length ≤ 9223372036854775807 := HM.out
    by_cases hlt : k < l1.length
    · have hlt' : (k : Int) < (l1.length : Int) := by omega
      obtain ⟨ad, e1, hx1⟩ := Kd.at_int (Kd.C_below HR.out HB.out) (k : Int) (by omega) hlt'
      cases e1
      rw [show ((k : Int)).toNat = k from by omega] at hx1
      have hix := fun (W : World) => run_index_agg (P := Try.prog) (k := .u8) (i := Go.bits .xor .u8 (x % 256) (rd l1 k)) Try.underlying34 (crc_byte _ _).1 (crc_byte _ _).2 (crc_at (x % 256) (rd l1 k)) (fun _ => by kernel_rfl) (fun _ => by kernel_rfl) W
      rw [← HC.out] at hix
      obtain ⟨y, hy⟩ : ∃ y, y = crc_bits 8 (Go.bits .xor .u8 (x % 256) (rd l1 k)) := ⟨_, rfl⟩
      rw [← hy] at hix
      have HS := Aside0.mk (show crc_step x (rd l1 k) = Go.bits .xor .u32 (x / 256) y by rw [hy]; rfl)
      clear hy
      go_wp2_with (go_at_call 12; refine (crc_table_calls _).mono ?_; rintro e w1 ⟨he, hb1⟩; rw [← HC.out] at he; subst he; have HB1 := Aside0.mk (below_then HB.out HB.out.size hb1); clear hb1)
      go_roundw
      case rel =>
        refine ⟨k + 1, _, by omega, by go_num, rfl, ⟨?_⟩, HB1⟩
        rw [List.take_succ_eq_append_getElem hlt, List.foldl_append, ← HX.out]
        show _ = crc_step x l1[k]
        have hrd : rd l1 k = l1[k] := by simp [rd, hlt]
        rw [← hrd]
        exact HS.out.symm
      case measure => simp [intOf]; omega
    · obtain rfl : k = l1.length := by omega
      go_wp2
      go_ret
      rw [← H.out, HX.out, List.take_length]
      exact ⟨rfl, HB.out⟩

/-! ### estreatref03_take: function 13 -/
def estreatref03_take.f (a0 : Int) (a1 : Int) : Option (Int) := if (Int.tmod a0 2) = a1 then (some ((Int.tdiv a0 2) % 4294967296)) else (some (Go.bits .xor .u32 ((Int.tdiv a0 2) % 4294967296) 3988292384))
set_option maxHeartbeats 8000000 in
set_option maxRecDepth 100000 in
theorem estreatref03_take.calls (a0 : Int) (a1 : Int) (r : Int) (w : World) (h : estreatref03_take.f a0 a1 = some r) :
    Calls Try.prog 13 #[.int .u32 a0, .int .u32 a1] w fun e w' => e = .returned (.int .u32 r) ∧ Drawn0 w w' := by
  have H : (if (Int.tmod a0 2) = a1 then (some ((Int.tdiv a0 2) % 4294967296)) else (some (Go.bits .xor .u32 ((Int.tdiv a0 2) % 4294967296) 3988292384))) = some r := h
  clear h
  by_cases c3 : (Int.tmod a0 2) = a1
  · rw [if_pos c3] at H
    have c3b0 : ((Int.tmod a0 2) == a1) = true := beq_iff_eq.mpr c3
    have c3b1 : ((Int.tmod a0 2) != a1) = false := bne_eq_false_iff_eq.mpr c3
    clear c3
    obtain rfl := Option.some.inj H
    go_enter Try.func13, Try.ntmps13
    go_wp2
    go_ret
    exact ⟨by first | rfl | (simp; done) | (simp [*]; done), by repeat (first | exact Drawn0.refl _ | apply Drawn0.step)⟩
  · rw [if_neg c3] at H
    have c3b0 : ((Int.tmod a0 2) == a1) = false := beq_eq_false_iff_ne.mpr c3
    have c3b1 : ((Int.tmod a0 2) != a1) = true := bne_iff_ne.mpr c3
    obtain rfl := Option.some.inj H
    go_enter Try.func13, Try.ntmps13
    go_wp2
    go_ret
    exact ⟨by first | rfl | (simp; done) | (simp [*]; done), by repeat (first | exact Drawn0.refl _ | apply Drawn0.step)⟩

/-! ### estreatref03_More: function 8 -/
mutual
def estreatref03_More.l0 : Nat → List Int → Int → Int → Option (Int)
  | 0, _, _, _ => none
  | k + 1, x1, x5, x6 => if x6 < (x1.length : Int) then (if 0 ≤ x6 then (estreatref03_More.l1 k x1 x5 x6 ((rd x1 x6) % 4294967296) 0) else (none)) else (some ((4294967295 - x5) % 4294967296))
def estreatref03_More.l1 : Nat → List Int → Int → Int → Int → Int → Option (Int)
  | 0, _, _, _, _, _ => none
  | k + 1, x1, x5, x6, x7, x8 => if x8 < 8 then ((estreatref03_take.f x5 (Int.tmod x7 2)).bind fun t102 => (estreatref03_More.l1 k x1 t102 x6 ((Int.tdiv x7 2) % 4294967296) (wrap64 (x8 + 1)))) else (estreatref03_More.l0 k x1 x5 (wrap64 (x6 + 1)))
end
def estreatref03_More.f (k : Nat) (a0 : Int) (l1 : List Int) : Option (Int) := estreatref03_More.l0 k l1 ((4294967295 - a0) % 4294967296) 0
theorem estreatref03_More.mono_l : ∀ k, (∀ y0 y1 y2, LeO (estreatref03_More.l0 k y0 y1 y2) (estreatref03_More.l0 (k + 1) y0 y1 y2)) ∧ (∀ y0 y1 y2 y3 y4, LeO (estreatref03_More.l1 k y0 y1 y2 y3 y4) (estreatref03_More.l1 (k + 1) y0 y1 y2 y3 y4))
  | 0 => ⟨fun _ _ _ r h => by simp [estreatref03_More.l0] at h, fun _ _ _ _ _ r h => by simp [estreatref03_More.l1] at h⟩
  | k + 1 => by
    obtain ⟨ih0, ih1⟩ := estreatref03_More.mono_l k
    refine ⟨?_, ?_⟩
    · intro y0 y1 y2
      unfold estreatref03_More.l0
      repeat' first
      | (with_reducible exact ih0 _ _ _)
      | (with_reducible exact ih1 _ _ _ _ _)
      | (with_reducible exact LeO.refl _)
      | (with_reducible exact LeO.none _)
      | (with_reducible refine LeO.ite ?_ ?_)
      | (with_reducible refine LeO.bind ?_ (fun _ => ?_))
      | exact ih0 _ _ _
      | exact ih1 _ _ _ _ _
      | exact LeO.none _
      | refine LeO.ite ?_ ?_
      | refine LeO.bind ?_ (fun _ => ?_)
    · intro y0 y1 y2 y3 y4
      unfold estreatref03_More.l1
      repeat' first
      | (with_reducible exact ih0 _ _ _)
      | (with_reducible exact ih1 _ _ _ _ _)
      | (with_reducible exact LeO.refl _)
      | (with_reducible exact LeO.none _)
      | (with_reducible refine LeO.ite ?_ ?_)
      | (with_reducible refine LeO.bind ?_ (fun _ => ?_))
      | exact ih0 _ _ _
      | exact ih1 _ _ _ _ _
      | exact LeO.none _
      | refine LeO.ite ?_ ?_
      | refine LeO.bind ?_ (fun _ => ?_)
theorem estreatref03_More.mono : ∀ a0 a1 k, LeO (estreatref03_More.f k a0 a1) (estreatref03_More.f (k + 1) a0 a1) := by
  intro a0 a1 k
  obtain ⟨ih0, ih1⟩ := estreatref03_More.mono_l k
  unfold estreatref03_More.f
  repeat' first
      | (with_reducible exact ih0 _ _ _)
      | (with_reducible exact ih1 _ _ _ _ _)
      | (with_reducible exact LeO.refl _)
      | (with_reducible exact LeO.none _)
      | (with_reducible refine LeO.ite ?_ ?_)
      | (with_reducible refine LeO.bind ?_ (fun _ => ?_))
      | exact ih0 _ _ _
      | exact ih1 _ _ _ _ _
      | exact LeO.none _
      | refine LeO.ite ?_ ?_
      | refine LeO.bind ?_ (fun _ => ?_)
set_option maxHeartbeats 8000000 in
set_option maxRecDepth 100000 in
theorem estreatref03_More.calls (k : Nat) (a0 : Int) (A1 : Option Addr) (c1 : Nat) (l1 : List Int) (r : Int) (w : World) (hr1 : Kd.C (Kd.int .u8) w A1 l1.length l1) (hc1 : l1.length ≤ c1) (h : estreatref03_More.f k a0 l1 = some r) :
    Calls Try.prog 8 #[.int .u32 a0, .slice A1 l1.length c1] w fun e w' => e = .returned (.int .u32 r) ∧ Drawn0 w w' := by
  have HR1 := Aside0.mk hr1
  have HC1 := Aside0.mk hc1
  clear hr1 hc1
  have H : (estreatref03_More.l0 k l1 ((4294967295 - a0) % 4294967296) 0) = some r := h
  clear h
  have H' := Aside0.mk H
  clear H
  go_enter Try.func8, Try.ntmps8
  go_wp2
  go_loopg [5, 6] k (fun kq v5 v6 w' => ∃ (x5_1 : Int) (x6_1 : Int), v5 = .int .u32 x5_1 ∧ v6 = .int .i64 x6_1 ∧ Aside0 (estreatref03_More.l0 kq l1 x5_1 x6_1 = some r) ∧ Aside0 (kq ≤ k) ∧ Drawn0 w w')
  case atStart => exact ⟨((4294967295 - a0) % 4294967296), (0), (by first | rfl | (simp; done) | (simp [*]; done)), (by first | rfl | (simp; done) | (simp [*]; done)), H', ⟨Nat.le_refl _⟩, by repeat (first | exact Drawn0.refl _ | apply Drawn0.step)⟩
  case round =>
    clear H'
    try clear c1
    try clear p2
    obtain ⟨x5_1, x6_1, rfl, rfl, HA, HK1, ⟨m1, rfl⟩⟩ := hrel
    cases gk with
    | zero => exact absurd HA.out (by simp [estreatref03_More.l0])
    | succ k1 =>
      have H := HA.out
      clear HA
      simp only [estreatref03_More.l0] at H
      by_cases c3 : x6_1 < (l1.length : Int)
      · rw [if_pos c3] at H
        have c3b0 : decide (x6_1 < (l1.length : Int)) = true := decide_eq_true c3
        clear c3
        by_cases c4 : 0 ≤ x6_1
        · rw [if_pos c4] at H
          have c4b0 : decide (0 ≤ x6_1) = true := decide_eq_true c4
          clear c4
          have H' := Aside0.mk H
          clear H
          have p101 : 0 ≤ (x6_1 : Int) := of_decide_eq_true (by first | (with_reducible assumption) | assumption)
          have q101 : x6_1 < (l1.length : Int) := of_decide_eq_true (by first | (with_reducible assumption) | assumption)
          obtain ⟨ad101, e101, hx101_0⟩ := Kd.at_int HR1.out x6_1 p101 q101
          cases e101
          replace p101 := eq_true p101
          replace q101 := eq_true q101
          go_wp2
          go_loopg [5, 7, 8] k1 (fun kq v5 v7 v8 w' => ∃ (x5_2 : Int) (x7_2 : Int) (x8_2 : Int), v5 = .int .u32 x5_2 ∧ v7 = .int .u32 x7_2 ∧ v8 = .int .i64 x8_2 ∧ Aside0 (estreatref03_More.l1 kq l1 x5_2 x6_1 x7_2 x8_2 = some r) ∧ Aside0 (kq ≤ k1) ∧ Drawn0 w w')
          case atStart => exact ⟨(x5_1), ((rd l1 x6_1) % 4294967296), (0), (by first | rfl | (simp; done) | (simp [*]; done)), (by first | rfl | (simp; done) | (simp [*]; done)), (by first | rfl | (simp; done) | (simp [*]; done)), H', ⟨Nat.le_refl _⟩, by repeat (first | exact Drawn0.refl _ | apply Drawn0.step)⟩
          case round =>
            clear H'
            try clear c1
            try clear p1
            try clear q1
            try clear hx1
            try clear p2
            try clear c3
            try clear c3b0
            try clear c4
            try clear c4b0
            try clear hx101_0
            try clear p101
            try clear p2
            try clear q101
            obtain ⟨x5_2, x7_2, x8_2, rfl, rfl, rfl, HA, HK2, ⟨m2, rfl⟩⟩ := hrel
            cases gk with
            | zero => exact absurd HA.out (by simp [estreatref03_More.l1])
            | succ k2 =>
              have H := HA.out
              clear HA
              simp only [estreatref03_More.l1] at H
              by_cases c5 : x8_2 < 8
              · rw [if_pos c5] at H
                have c5b0 : decide (x8_2 < 8) = true := decide_eq_true c5
                clear c5
                replace H := Option.bind_eq_some_iff.mp H
                obtain ⟨t102, A60, H⟩ := H
                replace H : (estreatref03_More.l1 k2 l1 t102 x6_1 ((Int.tdiv x7_2 2) % 4294967296) (wrap64 (x8_2 + 1))) = some r := H
                have A6 := Aside0.mk A60
                clear A60
                have H' := Aside0.mk H
                clear H
                go_wp2_with (first | ((with_reducible refine gate_callee (f := 13) rfl ?_); refine goesL_ (some 29) rfl rfl Try.func13 (by kernel_rfl) rfl #[.int .u32 x5_2, .int .u32 (Int.tmod x7_2 2)] rfl (by (try simp only [List.map_toArray, List.map_cons, List.map_nil]); first | done | rfl | (simp only [List.length_drop, List.length_take]; rfl)) ?_; (with_reducible refine (estreatref03_take.calls x5_2 (Int.tmod x7_2 2) t102 _ A6.out).mono ?_); rintro e w' ⟨rfl, ⟨nd, rfl⟩⟩; refine ⟨_, rfl, ?_⟩))
                go_roundg k2
                case measure => have := HK1.out; have := HK2.out; omega
                case rel => exact ⟨(t102), ((Int.tdiv x7_2 2) % 4294967296), (wrap64 (x8_2 + 1)), (by first | rfl | (simp; done) | (simp [*]; done)), (by first | rfl | (simp; done) | (simp [*]; done)), (by first | rfl | (simp; done) | (simp [*]; done)), H', ⟨by have := HK1.out; have := HK2.out; omega⟩, by repeat (first | exact Drawn0.refl _ | apply Drawn0.step)⟩
              · rw [if_neg c5] at H
                have c5b0 : decide (x8_2 < 8) = false := decide_eq_false c5
                clear c5
                have H' := Aside0.mk H
                clear H
                go_wp2
                go_roundg k2
                case measure => have := HK1.out; have := HK2.out; omega
                case rel => exact ⟨(x5_2), (wrap64 (x6_1 + 1)), (by first | rfl | (simp; done) | (simp [*]; done)), (by first | rfl | (simp; done) | (simp [*]; done)), H', ⟨by have := HK1.out; have := HK2.out; omega⟩, by repeat (first | exact Drawn0.refl _ | apply Drawn0.step)⟩
        · rw [if_neg c4] at H
          exact absurd H (by simp)
      · rw [if_neg c3] at H
        have c3b0 : decide (x6_1 < (l1.length : Int)) = false := decide_eq_false c3
        clear c3
        obtain rfl := Option.some.inj H
        go_wp2
        go_ret
        exact ⟨by first | rfl | (simp; done) | (simp [*]; done), by repeat (first | exact Drawn0.refl _ | apply Drawn0.step)⟩

/-! ### crc_Sum: function 9 -/
def crc_Sum.f (l0 : List Int) : Option (Int) := (crc_More.f 0 l0).bind fun t103 => (some t103)
set_option maxHeartbeats 8000000 in
set_option maxRecDepth 100000 in
theorem crc_Sum.calls (A0 : Option Addr) (c0 : Nat) (l0 : List Int) (r : Int) (w : World) (hr0 : Kd.C (Kd.int .u8) w A0 l0.length l0) (hc0 : l0.length ≤ c0) (h : crc_Sum.f l0 = some r) :
    Calls Try.prog 9 #[.slice A0 l0.length c0] w fun e w' => e = .returned (.int .u32 r) ∧ Below w.heap.size w w' := by
  have HR0 := Aside0.mk hr0
  have HC0 := Aside0.mk hc0
  clear hr0 hc0
  have HB := Aside0.mk (Below.refl w.heap.size w)
  have H : ((crc_More.f 0 l0).bind fun t103 => (some t103)) = some r := h
  clear h
  replace H := Option.bind_eq_some_iff.mp H
  obtain ⟨t103, A20, H⟩ := H
  replace H : (some t103) = some r := H
  have A2 := Aside0.mk A20
  clear A20
  obtain rfl := Option.some.inj H
  go_enter Try.func9, Try.ntmps9
  go_wp2_with (first | ((with_reducible refine gate_callee (f := 7) rfl ?_); refine goesL_ (some 4) rfl rfl Try.func7 (by kernel_rfl) rfl #[.int .u32 0, .slice A0 l0.length c0] rfl (by (try simp only [List.map_toArray, List.map_cons, List.map_nil]); first | done | rfl | (simp only [List.length_drop, List.length_take]; rfl)) ?_; (with_reducible refine (crc_More.calls 0 _ _ l0 t103 _ ?side1 ?side2 A2.out).mono ?_); (case side1 => repeat (first | exact HR0.out | (with_reducible refine Kd.C_alloc ?_ _) | (with_reducible refine Kd.C_drewN ?_ _) | (with_reducible refine Kd.C_drew ?_))); (case side2 => exact HC0.out); rintro e w3 ⟨rfl, hb⟩; refine ⟨_, rfl, ?_⟩; have n0_ := Aside0.mk (below_step (by repeat (first | (with_reducible first | exact HB.out | apply below_alloc | apply pw_below_drewN | apply below_drew1) | exact HB.out)) hb); clear HB; have HB := n0_; clear n0_; (try clear hb); (try clear hb2); (try clear hk); (try clear hi)))
  go_ret
  exact ⟨by first | rfl | (simp [errW_none, errW_some] <;> rfl) | (simp [*, errW_none, errW_some] <;> rfl), by repeat (first | (with_reducible first | exact HB.out | apply below_alloc | apply pw_below_drewN | apply below_drew1) | exact HB.out)⟩

/-! ### estreatlaw03_awake: function 10 -/
theorem awake03_reads (w : World) : ReadsInt (w.alloc (.cells #[.int .u8 49, .int .u8 50, .int .u8 51, .int .u8 52, .int .u8 53, .int .u8 54, .int .u8 55, .int .u8 56, .int .u8 57] 5 (9, 10))) .u8 (some ⟨w.heap.size, 0, none⟩) 9 [49, 50, 51, 52, 53, 54, 55, 56, 57] := by
  refine ⟨rfl, by omega, fun _ => ⟨_, rfl, fun j hj => ?_⟩⟩
  rw [add_plain, cell_of_row _ _ j _ _ _ (heap_alloc_new w _)]
  have hj' : j = 0 ∨ j = 1 ∨ j = 2 ∨ j = 3 ∨ j = 4 ∨ j = 5 ∨ j = 6 ∨ j = 7 ∨ j = 8 := by omega
  rcases hj' with h | h | h | h | h | h | h | h | h <;> subst h <;> rfl
def estreatlaw03_awake.f : Option Bool := (crc_Sum.f [49, 50, 51, 52, 53, 54, 55, 56, 57]).bind fun t => some (t == 3421780262)
set_option maxHeartbeats 800000 in
set_option maxRecDepth 100000 in
theorem estreatlaw03_awake.calls (r : Bool) (w : World) (h : estreatlaw03_awake.f = some r) :
    Calls Try.prog 10 #[] w fun e w' => e = .returned (.bool r) ∧ Below w.heap.size w w' := by
  unfold estreatlaw03_awake.f at h
  obtain ⟨t, ht, h2⟩ := Option.bind_eq_some_iff.mp h
  have HT := Aside0.mk ht
  have HR := Aside0.mk (Option.some.inj h2)
  clear h ht h2
  have kc := fun (C : Array Value) (n c : Nat) => Lib.run_convert_bytes_const (P := Try.prog) w 23 5 C n c Try.underlying23 Try.underlying5
  go_enter Try.func10, Try.ntmps10
  go_wp2_with fail
  refine (crc_Sum.calls _ 9 [49, 50, 51, 52, 53, 54, 55, 56, 57] t _ (Kd.C_of_reads (d := (0 : Int)) (h1 := fun _ => rfl) (awake03_reads w)) (by simp) HT.out).mono ?_
  rintro e w1 ⟨rfl, hb⟩
  have HB := Aside0.mk (((Below.refl w.heap.size w).alloc (Nat.le_refl _) _).trans (hb.mono (by simp)))
  clear hb
  go_wp2
  go_ret
  exact ⟨by rw [← HR.out]; rfl, HB.out⟩

/-! ### estreatlaw03_CrcSums: function 3 -/
def estreatlaw03_CrcSums.f (k : Nat) (a0 : Int) (l1 : List Int) : Option (Bool) := if (l1.length : Int) > 2000 then ((estreatlaw03_awake.f).bind fun t104 => (some t104)) else ((crc_More.f a0 l1).bind fun t105 => ((estreatref03_More.f k a0 l1).bind fun t106 => (if t105 = t106 then ((crc_Sum.f l1).bind fun t107 => ((estreatref03_More.f k 0 l1).bind fun t108 => (if t107 = t108 then ((estreatlaw03_awake.f).bind fun t109 => (some t109)) else (some false)))) else (some false))))
theorem estreatlaw03_CrcSums.mono : ∀ a0 a1 k, LeO (estreatlaw03_CrcSums.f k a0 a1) (estreatlaw03_CrcSums.f (k + 1) a0 a1) := by
  intro a0 a1 k
  unfold estreatlaw03_CrcSums.f
  repeat' first
      | (with_reducible exact estreatref03_More.mono _ _ _)
      | (with_reducible exact LeO.refl _)
      | (with_reducible exact LeO.none _)
      | (with_reducible refine LeO.ite ?_ ?_)
      | (with_reducible refine LeO.bind ?_ (fun _ => ?_))
      | exact estreatref03_More.mono _ _ _
      | exact LeO.none _
      | refine LeO.ite ?_ ?_
      | refine LeO.bind ?_ (fun _ => ?_)
set_option maxHeartbeats 8000000 in
set_option maxRecDepth 100000 in
theorem estreatlaw03_CrcSums.calls (k : Nat) (a0 : Int) (A1 : Option Addr) (c1 : Nat) (l1 : List Int) (r : Bool) (w : World) (hr1 : Kd.C (Kd.int .u8) w A1 l1.length l1) (hc1 : l1.length ≤ c1) (h : estreatlaw03_CrcSums.f k a0 l1 = some r) :
    Calls Try.prog 3 #[.int .u32 a0, .slice A1 l1.length c1] w fun e w' => e = .returned (.bool r) ∧ Below w.heap.size w w' := by
  have HR1 := Aside0.mk hr1
  have HC1 := Aside0.mk hc1
  clear hr1 hc1
  have HB := Aside0.mk (Below.refl w.heap.size w)
  have H : (if (l1.length : Int) > 2000 then ((estreatlaw03_awake.f).bind fun t104 => (some t104)) else ((crc_More.f a0 l1).bind fun t105 => ((estreatref03_More.f k a0 l1).bind fun t106 => (if t105 = t106 then ((crc_Sum.f l1).bind fun t107 => ((estreatref03_More.f k 0 l1).bind fun t108 => (if t107 = t108 then ((estreatlaw03_awake.f).bind fun t109 => (some t109)) else (some false)))) else (some false))))) = some r := h
  clear h
  by_cases c3 : (l1.length : Int) > 2000
  · rw [if_pos c3] at H
    have c3b0 : decide (2000 < (l1.length : Int)) = true := decide_eq_true c3
    have c3b1 : decide (2000 < l1.length) = true := decide_eq_true (by omega)
    clear c3
    replace H := Option.bind_eq_some_iff.mp H
    obtain ⟨t104, A40, H⟩ := H
    replace H : (some t104) = some r := H
    have A4 := Aside0.mk A40
    clear A40
    obtain rfl := Option.some.inj H
    go_enter Try.func3, Try.ntmps3
    go_wp2_with (first | (go_at_call 10; (with_reducible refine (estreatlaw03_awake.calls  t104 _ A4.out).mono ?_); rintro e w5 ⟨rfl, hb⟩; have n0_ := Aside0.mk (below_step (by repeat (first | (with_reducible first | exact HB.out | apply below_alloc | apply pw_below_drewN | apply below_drew1) | exact HB.out)) hb); clear HB; have HB := n0_; clear n0_; (try clear hb); (try clear hb2); (try clear hk); (try clear hi)))
    go_ret
    exact ⟨by first | rfl | (simp [errW_none, errW_some] <;> rfl) | (simp [*, errW_none, errW_some] <;> rfl), by repeat (first | (with_reducible first | exact HB.out | apply below_alloc | apply pw_below_drewN | apply below_drew1) | exact HB.out)⟩
  · rw [if_neg c3] at H
    have c3b0 : decide (2000 < (l1.length : Int)) = false := decide_eq_false c3
    have c3b1 : decide (2000 < l1.length) = false := decide_eq_false (by omega)
    clear c3
    replace H := Option.bind_eq_some_iff.mp H
    obtain ⟨t105, A60, H⟩ := H
    replace H : ((estreatref03_More.f k a0 l1).bind fun t106 => (if t105 = t106 then ((crc_Sum.f l1).bind fun t107 => ((estreatref03_More.f k 0 l1).bind fun t108 => (if t107 = t108 then ((estreatlaw03_awake.f).bind fun t109 => (some t109)) else (some false)))) else (some false))) = some r := H
    have A6 := Aside0.mk A60
    clear A60
    replace H := Option.bind_eq_some_iff.mp H
    obtain ⟨t106, A70, H⟩ := H
    replace H : (if t105 = t106 then ((crc_Sum.f l1).bind fun t107 => ((estreatref03_More.f k 0 l1).bind fun t108 => (if t107 = t108 then ((estreatlaw03_awake.f).bind fun t109 => (some t109)) else (some false)))) else (some false)) = some r := H
    have A7 := Aside0.mk A70
    clear A70
    by_cases c8 : t105 = t106
    · rw [if_pos c8] at H
      have c8b0 : (t105 == t106) = true := beq_iff_eq.mpr c8
      have c8b1 : (t105 != t106) = false := bne_eq_false_iff_eq.mpr c8
      clear c8
      replace H := Option.bind_eq_some_iff.mp H
      obtain ⟨t107, A90, H⟩ := H
      replace H : ((estreatref03_More.f k 0 l1).bind fun t108 => (if t107 = t108 then ((estreatlaw03_awake.f).bind fun t109 => (some t109)) else (some false))) = some r := H
      have A9 := Aside0.mk A90
      clear A90
      replace H := Option.bind_eq_some_iff.mp H
      obtain ⟨t108, A100, H⟩ := H
      replace H : (if t107 = t108 then ((estreatlaw03_awake.f).bind fun t109 => (some t109)) else (some false)) = some r := H
      have A10 := Aside0.mk A100
      clear A100
      by_cases c11 : t107 = t108
      · rw [if_pos c11] at H
        have c11b0 : (t107 == t108) = true := beq_iff_eq.mpr c11
        have c11b1 : (t107 != t108) = false := bne_eq_false_iff_eq.mpr c11
        clear c11
        replace H := Option.bind_eq_some_iff.mp H
        obtain ⟨t109, A120, H⟩ := H
        replace H : (some t109) = some r := H
        have A12 := Aside0.mk A120
        clear A120
        obtain rfl := Option.some.inj H
        go_enter Try.func3, Try.ntmps3
        go_wp2_with (first | (go_at_call 7; (with_reducible refine (crc_More.calls a0 _ _ l1 t105 _ ?side1 ?side2 A6.out).mono ?_); (case side1 => repeat (first | exact HR1.out | (with_reducible refine Kd.C_alloc ?_ _) | (with_reducible refine Kd.C_drewN ?_ _) | (with_reducible refine Kd.C_drew ?_))); (case side2 => exact HC1.out); rintro e w13 ⟨rfl, hb⟩; have n0_ := Aside0.mk (below_step (by repeat (first | (with_reducible first | exact HB.out | apply below_alloc | apply pw_below_drewN | apply below_drew1) | exact HB.out)) hb); clear HB; have HB := n0_; clear n0_; (try clear hb); (try clear hb2); (try clear hk); (try clear hi)) | (go_at_call 8; (with_reducible refine (estreatref03_More.calls k a0 _ _ l1 t106 _ ?side1 ?side2 A7.out).mono ?_); (case side1 => repeat (first | exact (Kd.C_below HR1.out HB.out) | (with_reducible refine Kd.C_alloc ?_ _) | (with_reducible refine Kd.C_drewN ?_ _) | (with_reducible refine Kd.C_drew ?_))); (case side2 => exact HC1.out); rintro e w' ⟨rfl, ⟨nd, rfl⟩⟩) | (go_at_call 9; (with_reducible refine (crc_Sum.calls _ _ l1 t107 _ ?side1 ?side2 A9.out).mono ?_); (case side1 => repeat (first | exact (Kd.C_below HR1.out (by repeat (first | (with_reducible first | exact HB.out | apply below_alloc | apply pw_below_drewN | apply below_drew1) | exact HB.out))) | (with_reducible refine Kd.C_alloc ?_ _) | (with_reducible refine Kd.C_drewN ?_ _) | (with_reducible refine Kd.C_drew ?_))); (case side2 => exact HC1.out); rintro e w14 ⟨rfl, hb⟩; have n0_ := Aside0.mk (below_step (by repeat (first | (with_reducible first | exact HB.out | apply below_alloc | apply pw_below_drewN | apply below_drew1) | exact HB.out)) hb); clear HB; have HB := n0_; clear n0_; (try clear hb); (try clear hb2); (try clear hk); (try clear hi)) | (go_at_call 8; (with_reducible refine (estreatref03_More.calls k 0 _ _ l1 t108 _ ?side1 ?side2 A10.out).mono ?_); (case side1 => repeat (first | exact (Kd.C_below HR1.out HB.out) | (with_reducible refine Kd.C_alloc ?_ _) | (with_reducible refine Kd.C_drewN ?_ _) | (with_reducible refine Kd.C_drew ?_))); (case side2 => exact HC1.out); rintro e w' ⟨rfl, ⟨nd, rfl⟩⟩) | (go_at_call 10; (with_reducible refine (estreatlaw03_awake.calls  t109 _ A12.out).mono ?_); rintro e w15 ⟨rfl, hb⟩; have n0_ := Aside0.mk (below_step (by repeat (first | (with_reducible first | exact HB.out | apply below_alloc | apply pw_below_drewN | apply below_drew1) | exact HB.out)) hb); clear HB; have HB := n0_; clear n0_; (try clear hb); (try clear hb2); (try clear hk); (try clear hi)))
        go_ret
        exact ⟨by first | rfl | (simp [errW_none, errW_some] <;> rfl) | (simp [*, errW_none, errW_some] <;> rfl), by repeat (first | (with_reducible first | exact HB.out | apply below_alloc | apply pw_below_drewN | apply below_drew1) | exact HB.out)⟩
      · rw [if_neg c11] at H
        have c11b0 : (t107 == t108) = false := beq_eq_false_iff_ne.mpr c11
        have c11b1 : (t107 != t108) = true := bne_iff_ne.mpr c11
        obtain rfl := Option.some.inj H
        go_enter Try.func3, Try.ntmps3
        go_wp2_with (first | (go_at_call 7; (with_reducible refine (crc_More.calls a0 _ _ l1 t105 _ ?side1 ?side2 A6.out).mono ?_); (case side1 => repeat (first | exact HR1.out | (with_reducible refine Kd.C_alloc ?_ _) | (with_reducible refine Kd.C_drewN ?_ _) | (with_reducible refine Kd.C_drew ?_))); (case side2 => exact HC1.out); rintro e w16 ⟨rfl, hb⟩; have n0_ := Aside0.mk (below_step (by repeat (first | (with_reducible first | exact HB.out | apply below_alloc | apply pw_below_drewN | apply below_drew1) | exact HB.out)) hb); clear HB; have HB := n0_; clear n0_; (try clear hb); (try clear hb2); (try clear hk); (try clear hi)) | (go_at_call 8; (with_reducible refine (estreatref03_More.calls k a0 _ _ l1 t106 _ ?side1 ?side2 A7.out).mono ?_); (case side1 => repeat (first | exact (Kd.C_below HR1.out HB.out) | (with_reducible refine Kd.C_alloc ?_ _) | (with_reducible refine Kd.C_drewN ?_ _) | (with_reducible refine Kd.C_drew ?_))); (case side2 => exact HC1.out); rintro e w' ⟨rfl, ⟨nd, rfl⟩⟩) | (go_at_call 9; (with_reducible refine (crc_Sum.calls _ _ l1 t107 _ ?side1 ?side2 A9.out).mono ?_); (case side1 => repeat (first | exact (Kd.C_below HR1.out (by repeat (first | (with_reducible first | exact HB.out | apply below_alloc | apply pw_below_drewN | apply below_drew1) | exact HB.out))) | (with_reducible refine Kd.C_alloc ?_ _) | (with_reducible refine Kd.C_drewN ?_ _) | (with_reducible refine Kd.C_drew ?_))); (case side2 => exact HC1.out); rintro e w17 ⟨rfl, hb⟩; have n0_ := Aside0.mk (below_step (by repeat (first | (with_reducible first | exact HB.out | apply below_alloc | apply pw_below_drewN | apply below_drew1) | exact HB.out)) hb); clear HB; have HB := n0_; clear n0_; (try clear hb); (try clear hb2); (try clear hk); (try clear hi)) | (go_at_call 8; (with_reducible refine (estreatref03_More.calls k 0 _ _ l1 t108 _ ?side1 ?side2 A10.out).mono ?_); (case side1 => repeat (first | exact (Kd.C_below HR1.out HB.out) | (with_reducible refine Kd.C_alloc ?_ _) | (with_reducible refine Kd.C_drewN ?_ _) | (with_reducible refine Kd.C_drew ?_))); (case side2 => exact HC1.out); rintro e w' ⟨rfl, ⟨nd, rfl⟩⟩))
        go_ret
        exact ⟨by first | rfl | (simp [errW_none, errW_some] <;> rfl) | (simp [*, errW_none, errW_some] <;> rfl), by repeat (first | (with_reducible first | exact HB.out | apply below_alloc | apply pw_below_drewN | apply below_drew1) | exact HB.out)⟩
    · rw [if_neg c8] at H
      have c8b0 : (t105 == t106) = false := beq_eq_false_iff_ne.mpr c8
      have c8b1 : (t105 != t106) = true := bne_iff_ne.mpr c8
      obtain rfl := Option.some.inj H
      go_enter Try.func3, Try.ntmps3
      go_wp2_with (first | (go_at_call 7; (with_reducible refine (crc_More.calls a0 _ _ l1 t105 _ ?side1 ?side2 A6.out).mono ?_); (case side1 => repeat (first | exact HR1.out | (with_reducible refine Kd.C_alloc ?_ _) | (with_reducible refine Kd.C_drewN ?_ _) | (with_reducible refine Kd.C_drew ?_))); (case side2 => exact HC1.out); rintro e w18 ⟨rfl, hb⟩; have n0_ := Aside0.mk (below_step (by repeat (first | (with_reducible first | exact HB.out | apply below_alloc | apply pw_below_drewN | apply below_drew1) | exact HB.out)) hb); clear HB; have HB := n0_; clear n0_; (try clear hb); (try clear hb2); (try clear hk); (try clear hi)) | (go_at_call 8; (with_reducible refine (estreatref03_More.calls k a0 _ _ l1 t106 _ ?side1 ?side2 A7.out).mono ?_); (case side1 => repeat (first | exact (Kd.C_below HR1.out HB.out) | (with_reducible refine Kd.C_alloc ?_ _) | (with_reducible refine Kd.C_drewN ?_ _) | (with_reducible refine Kd.C_drew ?_))); (case side2 => exact HC1.out); rintro e w' ⟨rfl, ⟨nd, rfl⟩⟩))
      go_ret
      exact ⟨by first | rfl | (simp [errW_none, errW_some] <;> rfl) | (simp [*, errW_none, errW_some] <;> rfl), by repeat (first | (with_reducible first | exact HB.out | apply below_alloc | apply pw_below_drewN | apply below_drew1) | exact HB.out)⟩

/-- THE ONE PURE STATEMENT of estreatlaw03_CrcSums: yours. -/
def estreatlaw03_CrcSums.Pure : Prop := ∀ (a0 : Int) (l1 : List Int), (Lit.int .u32 a0).wf = true → l1.length ≤ maxLen → l1.length * 1 ≤ 140737488351232 → (∀ x ∈ l1, (Lit.int .u8 x).wf = true) → ∃ k, estreatlaw03_CrcSums.f k a0 l1 = some true
theorem estreatlaw03_CrcSums.walk (P : estreatlaw03_CrcSums.Pure) (a0 : Int) (a1 : Option Addr) (len1 cap1 : Nat) (z1 : List Int) (w : World) (w0 : (Lit.int .u32 a0).wf = true) (w1 : (a1 = none ∧ len1 = 0 ∧ cap1 = 0 ∧ z1 = []) ∨ ∃ x, a1 = some x ∧ len1 ≤ cap1 ∧ cap1 ≤ maxLen ∧ z1.length = cap1 ∧ (∀ i, i < z1.length → w.cell? (x.add i) = some (.int .u8 (z1.getD i 0))) ∧ ∀ n ∈ z1, (Lit.int .u8 n).wf = true) (y1 : len1 * 1 ≤ 140737488351232) :
    Calls Try.prog 3 #[.int .u32 a0, .slice a1 len1 cap1] w fun e w' => e = .returned (.bool true) ∧ Below w.heap.size w w' := by
  obtain ⟨l1, rfl, hr1, hm1, hw1, hc1⟩ := ReadsInt.ofRowC w1
  obtain ⟨k, h⟩ := P a0 l1 w0 hm1 y1 hw1
  refine (estreatlaw03_CrcSums.calls k a0 _ _ l1 true w (Kd.C_of_reads (d := (0 : Int)) (h1 := fun _ => rfl) hr1) hc1 h).mono ?_
  rintro e w' ⟨rfl, hd⟩
  exact ⟨rfl, hd⟩

end Go.Proofs.Ytdabdhimidfofaa.PCrcSums

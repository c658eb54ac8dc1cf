-- Printed for this claim by a program of this session's own (it runs the kit's print another way): Lean checks it.
import Derived.Test.YtdabdhimidfofaaPCrcTurnedx0
namespace Go.Proofs.Ytdabdhimidfofaa.PCrcTurned
open Go.RowKit Go.Proofs.YtdabdhimidfofaaW.PrintWords Go.Proofs.YtdabdhimidfofaaW.PrintLast Go.Proofs.YtdabdhimidfofaaW.PrintMore
attribute [local go_sem] max2_int min2_int max_two min_two max_three min_three max_four min_four   -- for this text's walks alone
set_option linter.unusedVariables false
set_option linter.unusedSimpArgs false

-- NOT PRINTED: function 14 (crc_reckon)

-- NOT PRINTED: function 12 (crc_table)

/-! ### crc_More: function 7 -/
theorem crc_info : (Try.prog.info? 34).map (fun i => (i.zero, i.size)) = some (some (.agg (Array.replicate 256 (.int .u32 0))), 256) := by kernel_rfl

/-- One bit of the remainder. -/
def crc_bit (v : Int) : Int := if Go.bits .and .u32 v 1 = 1 then Go.bits .xor .u32 (v / 2) 3988292384 else v / 2
def crc_bits : Nat → Int → Int
  | 0, v => v
  | n + 1, v => crc_bit (crc_bits n v)
def crc_cells (k : Nat) : Array Value := Array.ofFn (n := 256) (fun j => .int .u32 (if j.val < k then crc_bits 8 j.val else 0))
theorem crc_cells_zero : crc_cells 0 = Array.replicate 256 (.int .u32 0) := by
  apply Array.ext
  · simp [crc_cells]
  · intro i h1 h2
    simp [crc_cells]
theorem crc_cells_succ (k : Nat) : (crc_cells k).setIfInBounds k (.int .u32 (crc_bits 8 k)) = crc_cells (k + 1) := by
  apply Array.ext
  · simp [crc_cells]
  · intro i h1 h2
    have h3 : i < (crc_cells k).size := by simpa using h1
    rw [Array.getElem_setIfInBounds h3]
    simp only [crc_cells, Array.getElem_ofFn]
    by_cases e : k = i
    · subst e
      simp
    · rw [if_neg e]
      by_cases l : i < k
      · rw [if_pos l, if_pos (by omega)]
      · rw [if_neg l, if_neg (by omega)]

theorem below_setRow {B : Nat} {a w : World} (h : Below B a w) {g : Nat} {cs : Array Value} (hg : B ≤ g) : Below B a (w.setRow g cs) :=
  ⟨h.os, h.tape, h.output, by rw [size_setRow]; exact h.size, fun i hi => (setRow_other w g i cs (by omega)).trans (h.block i hi)⟩
theorem crc_cells_size (k : Nat) : (crc_cells k).size = 256 := by simp [crc_cells]
theorem crc_cells_one (k : Nat) : (crc_cells k).all (·.oneCell') = true := by
  rw [Array.all_eq_true]
  intro i h
  simp [crc_cells, Value.oneCell']
set_option maxHeartbeats 400000 in
set_option maxRecDepth 100000 in
theorem crc_reckon_calls (w : World) :
    Calls Try.prog 14 #[] w fun e w' => e = .returned (.agg (crc_cells 256)) ∧ Below w.heap.size w w' := by
  have hz := (zero_of_info crc_info).1
  go_enter Try.func14, Try.ntmps14
  go_wp2
  go_loopw [4] (fun v4 w' => ∃ (k : Nat) (c : Array Value), k ≤ 256 ∧ v4 = .int .i64 k ∧ w' = (w.alloc (Obj.cells (Array.replicate 256 (Value.int IntKind.u32 0)) 34)).alloc (Obj.cells c 34) ∧ Aside0 (c = crc_cells k)) (fun i _ => 256 - (intOf i).toNat)
  case atStart => exact ⟨0, _, by omega, rfl, rfl, ⟨by rw [crc_cells_zero]⟩⟩
  case round =>
    obtain ⟨k, c, hk, rfl, rfl, HC⟩ := hrel
    by_cases hlt : k < 256
    · obtain ⟨cv, hcv⟩ : ∃ cv, c[k]? = some cv := ⟨_, Array.getElem?_eq_getElem (by rw [HC.out, crc_cells_size]; exact hlt)⟩
      go_wp2
      go_loop [3, 9] (fun v n => ∃ (j : Nat) (x : Int), j ≤ 8 ∧ n = .int .i64 j ∧ v = .int .u32 x ∧ Aside0 (x = crc_bits j k)) (fun _ i => 8 - (intOf i).toNat)
      case atStart => exact ⟨0, k, by omega, rfl, by go_num, ⟨rfl⟩⟩
      case round =>
        obtain ⟨j, v, hj, rfl, rfl, HV⟩ := hrel
        by_cases hj8 : j < 8
        · have hs : crc_bits (j + 1) k = crc_bit v := by rw [HV.out]; rfl
          unfold crc_bit at hs
          by_cases hb : Go.bits .and .u32 v 1 = 1
          · rw [if_pos hb] at hs
            have HS := Aside0.mk hs
            have hb1 : (Go.bits .and .u32 v 1 == 1) = true := by simpa using hb
            clear hs hb
            go_wp2
            go_round
            case rel => exact ⟨j + 1, _, by omega, by go_num, rfl, ⟨HS.out.symm⟩⟩
            case measure => simp [intOf]; omega
          · rw [if_neg hb] at hs
            have HS := Aside0.mk hs
            have hb1 : (Go.bits .and .u32 v 1 == 1) = false := by simpa using hb
            clear hs hb
            go_wp2
            go_round
            case rel => exact ⟨j + 1, _, by omega, by go_num, rfl, ⟨HS.out.symm⟩⟩
            case measure => simp [intOf]; omega
        · go_wp2
          go_roundw
          case rel =>
            obtain rfl : j = 8 := by omega
            obtain rfl := HC.out
            refine ⟨k + 1, _, by omega, by go_num, ?_, ⟨crc_cells_succ k⟩⟩
            rw [← HV.out]
          case measure => simp [intOf]; omega
    · obtain rfl : k = 256 := by omega
      have hcs : c.size = 256 := by rw [HC.out]; exact crc_cells_size 256
      have hone : c.all (·.oneCell') = true := by rw [HC.out]; exact crc_cells_one 256
      have hcs1 : c.all (·.oneCell') = true := hone
      have hin := (zero_of_info crc_info).2
      have h0 := heap_alloc2_old w (Obj.cells (Array.replicate 256 (Value.int IntKind.u32 0)) 34) (Obj.cells c 34)
      have h1 := heap_alloc2_new w (Obj.cells (Array.replicate 256 (Value.int IntKind.u32 0)) 34) (Obj.cells c 34)
      have HL := Aside0.mk h1
      have HS := Aside0.mk h0
      have HI := Aside0.mk hin
      have HCS := Aside0.mk hcs
      have HC1 := Aside0.mk hcs1
      clear h0 h1 hin hcs hcs1 hone
      go_wp2_with (first | (refine wpList_load_row rfl 34 _ rfl (w.heap.size + 1) rfl 34 c (0, 0) _ HL.out Try.underlying34 rfl (by rw [HI.out, HCS.out]) ?_) | (refine wpList_store_row rfl 34 _ _ rfl w.heap.size c rfl rfl 34 _ HS.out (by rw [HI.out, HCS.out]) (by rw [HCS.out, Array.size_replicate]) HC1.out ?_))
      refine bodyPost_ret (v := .agg c) ?_ rfl ⟨by rw [HC.out], ?_⟩
      · refine results_cell_row rfl _ _ w.heap.size 34 c (0, 0) _ rfl ?_ Try.underlying34 rfl (by rw [HI.out, HCS.out])
        exact setRow_heap _ _ _ _ _ _ HS.out
      · exact below_setRow (((Below.refl _ _).alloc (Nat.le_refl _) _).alloc (by simp) _) (Nat.le_refl _)

set_option maxHeartbeats 400000 in
set_option maxRecDepth 100000 in
theorem crc_table_calls (w : World) :
    Calls Try.prog 12 #[] w fun e w' => e = .returned (.agg (crc_cells 256)) ∧ Below w.heap.size w w' := by
  have hz := (zero_of_info crc_info).1
  have hcs : (crc_cells 256).size = 256 := crc_cells_size 256
  have hone : (crc_cells 256).all (·.oneCell') = true := crc_cells_one 256
  obtain ⟨c, hc⟩ : ∃ c, c = crc_cells 256 := ⟨_, rfl⟩
  rw [← hc] at hcs hone
  have HC := Aside0.mk hc
  have HCS := Aside0.mk hcs
  have HC1 := Aside0.mk hone
  have HI := Aside0.mk (zero_of_info crc_info).2
  clear hc hcs hone
  go_enter Try.func12, Try.ntmps12
  go_wp2_with fail
  refine (crc_reckon_calls _).mono ?_
  rintro e w1 ⟨he, hb⟩
  rw [← HC.out] at he
  subst he
  have hz1 : w.heap.size < w1.heap.size := by have := hb.size; simp at this; omega
  have hg := Aside0.mk ((hb.block w.heap.size (by simp)).trans (heap_alloc_new w (Obj.cells (Array.replicate 256 (Value.int IntKind.u32 0)) 34)))
  have hb' : Below w.heap.size w w1 := ((Below.refl w.heap.size w).alloc (Nat.le_refl _) _).trans (hb.mono (by simp))
  have HB := Aside0.mk hb'
  clear hb hb'
  go_wp2_with (refine wpList_store_row rfl 34 _ _ rfl w.heap.size c rfl rfl 34 _ hg.out (by rw [HI.out, HCS.out]) (by rw [HCS.out, Array.size_replicate]) HC1.out ?_)
  refine bodyPost_ret (v := .agg c) ?_ rfl ⟨by rw [HC.out], ?_⟩
  · exact results_cell_row rfl _ _ w.heap.size 34 c (0, 0) _ rfl (setRow_heap _ _ _ _ _ _ hg.out) Try.underlying34 rfl (by rw [HI.out, HCS.out])
  · exact below_setRow HB.out (Nat.le_refl _)

/-- An element of an array by value. -/
theorem run_index_agg {P : Program} {t e : TypeId} {n : Nat} {cs : Array Value} {k : IntKind} {i : Int} {v : Value} (h : P.underlying t = some (.array n e)) (h0 : 0 ≤ i) (h1 : i < n) (hv : cs[i.toNat]? = some v) (hs : ∀ w, (sizeOf e).run P w = .ok 1 w) (ha : ∀ w, (isAgg e).run P w = .ok false w) (w : World) :
    (Instr.index t (.agg cs) (.int k i)).run P w = .ok v w := by
  simp [Instr.index, run_underlying h, asIntOf, h0, h1, hv, hs, ha, go_sem]
def crc_step (v c : Int) : Int := Go.bits .xor .u32 (v / 256) (crc_bits 8 (Go.bits .xor .u8 (v % 256) c))
def crc_More.f (a0 : Int) (l1 : List Int) : Option Int := some (Go.bits .xor .u32 IntKind.u32.max (l1.foldl crc_step (Go.bits .xor .u32 IntKind.u32.max a0)))
theorem crc_byte (a b : Int) : 0 ≤ Go.bits .xor .u8 a b ∧ Go.bits .xor .u8 a b < 256 := by
  unfold Go.bits
  simp only [IntKind.wrap_u8]
  omega
theorem crc_at (a b : Int) : (crc_cells 256)[(Go.bits .xor .u8 a b).toNat]? = some (.int .u32 (crc_bits 8 (Go.bits .xor .u8 a b))) := by
  have h := crc_byte a b
  generalize Go.bits .xor .u8 a b = x at *
  have hx : x.toNat < 256 := by omega
  have hi : ((x.toNat : Nat) : Int) = x := by omega
  rw [Array.getElem?_eq_getElem (by rw [crc_cells_size]; exact hx)]
  simp only [crc_cells, Array.getElem_ofFn]
  rw [if_pos hx, hi]
set_option maxHeartbeats 400000 in
set_option maxRecDepth 100000 in
theorem crc_More.calls (a0 : Int) (A1 : Option Addr) (c1 : Nat) (l1 : List Int) (r : Int) (w : World) (hr1 : Kd.C (Kd.int .u8) w A1 l1.length l1) (hc1 : l1.length ≤ c1) (h : crc_More.f a0 l1 = some r) :
    Calls Try.prog 7 #[.int .u32 a0, .slice A1 l1.length c1] w fun e w' => e = .returned (.int .u32 r) ∧ Below w.heap.size w w' := by
  have H := Aside0.mk (Option.some.inj h)
  have HR := Aside0.mk hr1
  have HM := Aside0.mk (Kd.C_max hr1)
  have HC1 := Aside0.mk hc1
  obtain ⟨c, hc⟩ : ∃ c, c = crc_cells 256 := ⟨_, rfl⟩
  have HC := Aside0.mk hc
  clear hr1 hc1 hc h
  go_enter Try.func7, Try.ntmps7
  go_wp2
  go_loopw [5, 12] (fun v5 i w' => ∃ (k : Nat) (x : Int), k ≤ l1.length ∧ i = .int .i64 k ∧ v5 = .int .u32 x ∧ Aside0 (x = (l1.take k).foldl crc_step (Go.bits .xor .u32 IntKind.u32.max a0)) ∧ Aside0 (Below w.heap.size w w')) (fun _ i _ => l1.length - (intOf i).toNat)
  case atStart => exact ⟨0, _, Nat.zero_le _, rfl, rfl, ⟨rfl⟩, ⟨Below.refl _ _⟩⟩
  case round =>
    obtain ⟨k, x, hk, rfl, rfl, HX, HB⟩ := hrel
    have hm : l1.length ≤ 9223372036854775807 := HM.out
    by_cases hlt : k < l1.length
    · have hlt' : (k : Int) < (l1.length : Int) := by omega
      obtain ⟨ad, e1, hx1⟩ := Kd.at_int (Kd.C_below HR.out HB.out) (k : Int) (by omega) hlt'
      cases e1
      rw [show ((k : Int)).toNat = k from by omega] at hx1
      have hix := fun (W : World) => run_index_agg (P := Try.prog) (k := .u8) (i := Go.bits .xor .u8 (x % 256) (rd l1 k)) Try.underlying34 (crc_byte _ _).1 (crc_byte _ _).2 (crc_at (x % 256) (rd l1 k)) (fun _ => by kernel_rfl) (fun _ => by kernel_rfl) W
      rw [← HC.out] at hix
      obtain ⟨y, hy⟩ : ∃ y, y = crc_bits 8 (Go.bits .xor .u8 (x % 256) (rd l1 k)) := ⟨_, rfl⟩
      rw [← hy] at hix
      have HS := Aside0.mk (show crc_step x (rd l1 k) = Go.bits .xor .u32 (x / 256) y by rw [hy]; rfl)
      clear hy
      go_wp2_with (go_at_call 12; refine (crc_table_calls _).mono ?_; rintro e w1 ⟨he, hb1⟩; rw [← HC.out] at he; subst he; have HB1 := Aside0.mk (below_then HB.out HB.out.size hb1); clear hb1)
      go_roundw
      case rel =>
        refine ⟨k + 1, _, by omega, by go_num, rfl, ⟨?_⟩, HB1⟩
        rw [List.take_succ_eq_append_getElem hlt, List.foldl_append, ← HX.out]
        show _ = crc_step x l1[k]
        have hrd : rd l1 k = l1[k] := by simp [rd, hlt]
        rw [← hrd]
        exact HS.out.symm
      case measure => simp [intOf]; omega
    · obtain rfl : k = l1.length := by omega
      go_wp2
      go_ret
      rw [← H.out, HX.out, List.take_length]
      exact ⟨rfl, HB.out⟩

/-! ### crc_Sum: function 9 -/
def crc_Sum.f (l0 : List Int) : Option (Int) := (crc_More.f 0 l0).bind fun t101 => (some t101)
set_option maxHeartbeats 8000000 in
set_option maxRecDepth 100000 in
theorem crc_Sum.calls (A0 : Option Addr) (c0 : Nat) (l0 : List Int) (r : Int) (w : World) (hr0 : Kd.C (Kd.int .u8) w A0 l0.length l0) (hc0 : l0.length ≤ c0) (h : crc_Sum.f l0 = some r) :
    Calls Try.prog 9 #[.slice A0 l0.length c0] w fun e w' => e = .returned (.int .u32 r) ∧ Below w.heap.size w w' := by
  have HR0 := Aside0.mk hr0
  have HC0 := Aside0.mk hc0
  clear hr0 hc0
  have HB := Aside0.mk (Below.refl w.heap.size w)
  have H : ((crc_More.f 0 l0).bind fun t101 => (some t101)) = some r := h
  clear h
  replace H := Option.bind_eq_some_iff.mp H
  obtain ⟨t101, A20, H⟩ := H
  replace H : (some t101) = some r := H
  have A2 := Aside0.mk A20
  clear A20
  obtain rfl := Option.some.inj H
  go_enter Try.func9, Try.ntmps9
  go_wp2_with (first | ((with_reducible refine gate_callee (f := 7) rfl ?_); refine goesL_ (some 4) rfl rfl Try.func7 (by kernel_rfl) rfl #[.int .u32 0, .slice A0 l0.length c0] rfl (by (try simp only [List.map_toArray, List.map_cons, List.map_nil]); first | done | rfl | (simp only [List.length_drop, List.length_take]; rfl)) ?_; (with_reducible refine (crc_More.calls 0 _ _ l0 t101 _ ?side1 ?side2 A2.out).mono ?_); (case side1 => repeat (first | exact HR0.out | (with_reducible refine Kd.C_alloc ?_ _) | (with_reducible refine Kd.C_drewN ?_ _) | (with_reducible refine Kd.C_drew ?_))); (case side2 => exact HC0.out); rintro e w3 ⟨rfl, hb⟩; refine ⟨_, rfl, ?_⟩; have n0_ := Aside0.mk (below_step (by repeat (first | (with_reducible first | exact HB.out | apply below_alloc | apply pw_below_drewN | apply below_drew1) | exact HB.out)) hb); clear HB; have HB := n0_; clear n0_; (try clear hb); (try clear hb2); (try clear hk); (try clear hi)))
  go_ret
  exact ⟨by first | rfl | (simp [errW_none, errW_some] <;> rfl) | (simp [*, errW_none, errW_some] <;> rfl), by repeat (first | (with_reducible first | exact HB.out | apply below_alloc | apply pw_below_drewN | apply below_drew1) | exact HB.out)⟩

/-! ### estreatlaw03_awake: function 10 -/
theorem awake03_reads (w : World) : ReadsInt (w.alloc (.cells #[.int .u8 49, .int .u8 50, .int .u8 51, .int .u8 52, .int .u8 53, .int .u8 54, .int .u8 55, .int .u8 56, .int .u8 57] 5 (9, 10))) .u8 (some ⟨w.heap.size, 0, none⟩) 9 [49, 50, 51, 52, 53, 54, 55, 56, 57] := by
  refine ⟨rfl, by omega, fun _ => ⟨_, rfl, fun j hj => ?_⟩⟩
  rw [add_plain, cell_of_row _ _ j _ _ _ (heap_alloc_new w _)]
  have hj' : j = 0 ∨ j = 1 ∨ j = 2 ∨ j = 3 ∨ j = 4 ∨ j = 5 ∨ j = 6 ∨ j = 7 ∨ j = 8 := by omega
  rcases hj' with h | h | h | h | h | h | h | h | h <;> subst h <;> rfl
def estreatlaw03_awake.f : Option Bool := (crc_Sum.f [49, 50, 51, 52, 53, 54, 55, 56, 57]).bind fun t => some (t == 3421780262)
set_option maxHeartbeats 800000 in
set_option maxRecDepth 100000 in
theorem estreatlaw03_awake.calls (r : Bool) (w : World) (h : estreatlaw03_awake.f = some r) :
    Calls Try.prog 10 #[] w fun e w' => e = .returned (.bool r) ∧ Below w.heap.size w w' := by
  unfold estreatlaw03_awake.f at h
  obtain ⟨t, ht, h2⟩ := Option.bind_eq_some_iff.mp h
  have HT := Aside0.mk ht
  have HR := Aside0.mk (Option.some.inj h2)
  clear h ht h2
  have kc := fun (C : Array Value) (n c : Nat) => Lib.run_convert_bytes_const (P := Try.prog) w 23 5 C n c Try.underlying23 Try.underlying5
  go_enter Try.func10, Try.ntmps10
  go_wp2_with fail
  refine (crc_Sum.calls _ 9 [49, 50, 51, 52, 53, 54, 55, 56, 57] t _ (Kd.C_of_reads (d := (0 : Int)) (h1 := fun _ => rfl) (awake03_reads w)) (by simp) HT.out).mono ?_
  rintro e w1 ⟨rfl, hb⟩
  have HB := Aside0.mk (((Below.refl w.heap.size w).alloc (Nat.le_refl _) _).trans (hb.mono (by simp)))
  clear hb
  go_wp2
  go_ret
  exact ⟨by rw [← HR.out]; rfl, HB.out⟩

/-! ### estreatref01_Pick: function 11 -/
def estreatref01_Pick.f (a0 : Int) (a1 : Int) : Option (Int) := if a1 < 1 then (some 0) else (if a1 = 0 then (none) else (if (Int.tmod a0 a1) < 0 then (some (wrap64 ((Int.tmod a0 a1) + a1))) else (some (Int.tmod a0 a1))))
set_option maxHeartbeats 8000000 in
set_option maxRecDepth 100000 in
theorem estreatref01_Pick.calls (a0 : Int) (a1 : Int) (r : Int) (w : World) (h : estreatref01_Pick.f a0 a1 = some r) :
    Calls Try.prog 11 #[.int .i64 a0, .int .i64 a1] w fun e w' => e = .returned (.int .i64 r) ∧ Below w.heap.size w w' := by
  have HB := Aside0.mk (Below.refl w.heap.size w)
  have H : (if a1 < 1 then (some 0) else (if a1 = 0 then (none) else (if (Int.tmod a0 a1) < 0 then (some (wrap64 ((Int.tmod a0 a1) + a1))) else (some (Int.tmod a0 a1))))) = some r := h
  clear h
  by_cases c3 : a1 < 1
  · rw [if_pos c3] at H
    have c3b0 : decide (a1 < 1) = true := decide_eq_true c3
    clear c3
    obtain rfl := Option.some.inj H
    go_enter Try.func11, Try.ntmps11
    go_wp2
    go_ret
    exact ⟨by first | rfl | (simp [errW_none, errW_some] <;> rfl) | (simp [*, errW_none, errW_some] <;> rfl), by repeat (first | (with_reducible first | exact HB.out | apply below_alloc | apply pw_below_drewN | apply below_drew1) | exact HB.out)⟩
  · rw [if_neg c3] at H
    have c3b0 : decide (a1 < 1) = false := decide_eq_false c3
    clear c3
    by_cases c4 : a1 = 0
    · rw [if_pos c4] at H
      exact absurd H (by simp)
    · rw [if_neg c4] at H
      have c4b0 : (a1 == 0) = false := beq_eq_false_iff_ne.mpr c4
      have c4b1 : (a1 != 0) = true := bne_iff_ne.mpr c4
      by_cases c5 : (Int.tmod a0 a1) < 0
      · rw [if_pos c5] at H
        have c5b0 : decide ((Int.tmod a0 a1) < 0) = true := decide_eq_true c5
        clear c5
        obtain rfl := Option.some.inj H
        go_enter Try.func11, Try.ntmps11
        go_wp2
        go_ret
        exact ⟨by first | rfl | (simp [errW_none, errW_some] <;> rfl) | (simp [*, errW_none, errW_some] <;> rfl), by repeat (first | (with_reducible first | exact HB.out | apply below_alloc | apply pw_below_drewN | apply below_drew1) | exact HB.out)⟩
      · rw [if_neg c5] at H
        have c5b0 : decide ((Int.tmod a0 a1) < 0) = false := decide_eq_false c5
        clear c5
        obtain rfl := Option.some.inj H
        go_enter Try.func11, Try.ntmps11
        go_wp2
        go_ret
        exact ⟨by first | rfl | (simp [errW_none, errW_some] <;> rfl) | (simp [*, errW_none, errW_some] <;> rfl), by repeat (first | (with_reducible first | exact HB.out | apply below_alloc | apply pw_below_drewN | apply below_drew1) | exact HB.out)⟩

/-! ### estreatlaw03_CrcTurned: function 5 -/
mutual
def estreatlaw03_CrcTurned.j0 : Nat → List Int → Int → Int → Bool → Option (Bool)
  | 0, _, _, _, _ => none
  | k + 1, x0, x1, x2, x23 => if x23 = true then ((estreatlaw03_awake.f).bind fun t102 => (some t102)) else ((some (([] : List Int) : List Int)).bind fun y103 => (if y103.length + x0.length < 140737488355328 then ((estreatref01_Pick.f x1 (wrap64 (8 * (wrap64 ((x0.length : Int) - 4))))).bind fun t109 => (estreatlaw03_CrcTurned.l0 k x0 (y103 ++ x0) t109 (IntKind.u64.wrap (x2)) 0)) else (none)))
def estreatlaw03_CrcTurned.l0 : Nat → List Int → List Int → Int → Int → Int → Option (Bool)
  | 0, _, _, _, _, _ => none
  | k + 1, x0, x7, x8, x9, x10 => if x10 < (Int.tmod x8 8) then (estreatlaw03_CrcTurned.l0 k x0 x7 x8 (IntKind.u64.wrap (x9 * 2)) (wrap64 (x10 + 1))) else (estreatlaw03_CrcTurned.l1 k x0 x7 x8 x9 (wrap64 (Int.tdiv x8 8)))
def estreatlaw03_CrcTurned.l1 : Nat → List Int → List Int → Int → Int → Int → Option (Bool)
  | 0, _, _, _, _, _ => none
  | k + 1, x0, x7, x8, x9, x11 => if x11 < (wrap64 ((wrap64 (Int.tdiv x8 8)) + 5)) then (if 0 ≤ x11 then (if x11 < (x7.length : Int) then (estreatlaw03_CrcTurned.l1 k x0 (x7.set (x11 : Int).toNat (Go.bits .xor .u8 (rd x7 x11) ((Int.tmod x9 256) % 256))) x8 (IntKind.u64.wrap (Int.tdiv x9 256)) (wrap64 (x11 + 1))) else (none)) else (none)) else ((crc_Sum.f x7).bind fun t112 => ((crc_Sum.f x0).bind fun t113 => (if t112 = t113 then (some false) else ((estreatlaw03_awake.f).bind fun t114 => (some t114)))))
end
def estreatlaw03_CrcTurned.f (k : Nat) (l0 : List Int) (a1 : Int) (a2 : Int) : Option (Bool) := if (l0.length : Int) > 2000 then (estreatlaw03_CrcTurned.j0 k l0 a1 a2 true) else (if (l0.length : Int) < 5 then (estreatlaw03_CrcTurned.j0 k l0 a1 a2 true) else (estreatlaw03_CrcTurned.j0 k l0 a1 a2 (a2 == 0)))
theorem estreatlaw03_CrcTurned.mono_l : ∀ k, (∀ y0 y1 y2 y3, LeO (estreatlaw03_CrcTurned.j0 k y0 y1 y2 y3) (estreatlaw03_CrcTurned.j0 (k + 1) y0 y1 y2 y3)) ∧ (∀ y0 y1 y2 y3 y4, LeO (estreatlaw03_CrcTurned.l0 k y0 y1 y2 y3 y4) (estreatlaw03_CrcTurned.l0 (k + 1) y0 y1 y2 y3 y4)) ∧ (∀ y0 y1 y2 y3 y4, LeO (estreatlaw03_CrcTurned.l1 k y0 y1 y2 y3 y4) (estreatlaw03_CrcTurned.l1 (k + 1) y0 y1 y2 y3 y4))
  | 0 => ⟨fun _ _ _ _ r h => by simp [estreatlaw03_CrcTurned.j0] at h, fun _ _ _ _ _ r h => by simp [estreatlaw03_CrcTurned.l0] at h, fun _ _ _ _ _ r h => by simp [estreatlaw03_CrcTurned.l1] at h⟩
  | k + 1 => by
    obtain ⟨ih0, ih1, ih2⟩ := estreatlaw03_CrcTurned.mono_l k
    refine ⟨?_, ?_, ?_⟩
    · intro y0 y1 y2 y3
      unfold estreatlaw03_CrcTurned.j0
      repeat' first
      | (with_reducible exact ih0 _ _ _ _)
      | (with_reducible exact ih1 _ _ _ _ _)
      | (with_reducible exact ih2 _ _ _ _ _)
      | (with_reducible exact LeO.refl _)
      | (with_reducible exact LeO.none _)
      | (with_reducible refine LeO.ite ?_ ?_)
      | (with_reducible refine LeO.bind ?_ (fun _ => ?_))
      | exact ih0 _ _ _ _
      | exact ih1 _ _ _ _ _
      | exact ih2 _ _ _ _ _
      | exact LeO.none _
      | refine LeO.ite ?_ ?_
      | refine LeO.bind ?_ (fun _ => ?_)
    · intro y0 y1 y2 y3 y4
      unfold estreatlaw03_CrcTurned.l0
      repeat' first
      | (with_reducible exact ih0 _ _ _ _)
      | (with_reducible exact ih1 _ _ _ _ _)
      | (with_reducible exact ih2 _ _ _ _ _)
      | (with_reducible exact LeO.refl _)
      | (with_reducible exact LeO.none _)
      | (with_reducible refine LeO.ite ?_ ?_)
      | (with_reducible refine LeO.bind ?_ (fun _ => ?_))
      | exact ih0 _ _ _ _
      | exact ih1 _ _ _ _ _
      | exact ih2 _ _ _ _ _
      | exact LeO.none _
      | refine LeO.ite ?_ ?_
      | refine LeO.bind ?_ (fun _ => ?_)
    · intro y0 y1 y2 y3 y4
      unfold estreatlaw03_CrcTurned.l1
      repeat' first
      | (with_reducible exact ih0 _ _ _ _)
      | (with_reducible exact ih1 _ _ _ _ _)
      | (with_reducible exact ih2 _ _ _ _ _)
      | (with_reducible exact LeO.refl _)
      | (with_reducible exact LeO.none _)
      | (with_reducible refine LeO.ite ?_ ?_)
      | (with_reducible refine LeO.bind ?_ (fun _ => ?_))
      | exact ih0 _ _ _ _
      | exact ih1 _ _ _ _ _
      | exact ih2 _ _ _ _ _
      | exact LeO.none _
      | refine LeO.ite ?_ ?_
      | refine LeO.bind ?_ (fun _ => ?_)
theorem estreatlaw03_CrcTurned.mono : ∀ a0 a1 a2 k, LeO (estreatlaw03_CrcTurned.f k a0 a1 a2) (estreatlaw03_CrcTurned.f (k + 1) a0 a1 a2) := by
  intro a0 a1 a2 k
  obtain ⟨ih0, ih1, ih2⟩ := estreatlaw03_CrcTurned.mono_l k
  unfold estreatlaw03_CrcTurned.f
  repeat' first
      | (with_reducible exact ih0 _ _ _ _)
      | (with_reducible exact ih1 _ _ _ _ _)
      | (with_reducible exact ih2 _ _ _ _ _)
      | (with_reducible exact LeO.refl _)
      | (with_reducible exact LeO.none _)
      | (with_reducible refine LeO.ite ?_ ?_)
      | (with_reducible refine LeO.bind ?_ (fun _ => ?_))
      | exact ih0 _ _ _ _
      | exact ih1 _ _ _ _ _
      | exact ih2 _ _ _ _ _
      | exact LeO.none _
      | refine LeO.ite ?_ ?_
      | refine LeO.bind ?_ (fun _ => ?_)
set_option maxHeartbeats 8000000 in
set_option maxRecDepth 100000 in
theorem estreatlaw03_CrcTurned.calls (k : Nat) (A0 : Option Addr) (c0 : Nat) (l0 : List Int) (a1 : Int) (a2 : Int) (r : Bool) (w : World) (hr0 : Kd.C (Kd.int .u8) w A0 l0.length l0) (hc0 : l0.length ≤ c0) (h : estreatlaw03_CrcTurned.f k l0 a1 a2 = some r) :
    Calls Try.prog 5 #[.slice A0 l0.length c0, .int .i64 a1, .int .u32 a2] w fun e w' => e = .returned (.bool r) ∧ Below w.heap.size w w' := by
  have HR0 := Aside0.mk hr0
  have HC0 := Aside0.mk hc0
  clear hr0 hc0
  have HB := Aside0.mk (Below.refl w.heap.size w)
  have H : (if (l0.length : Int) > 2000 then (estreatlaw03_CrcTurned.j0 k l0 a1 a2 true) else (if (l0.length : Int) < 5 then (estreatlaw03_CrcTurned.j0 k l0 a1 a2 true) else (estreatlaw03_CrcTurned.j0 k l0 a1 a2 (a2 == 0)))) = some r := h
  clear h
  have HC4 := Aside0.mk H
  clear H
  go_enter Try.func5, Try.ntmps5
  go_upto_region 1 with (fail)
  go_cut [23] (fun v23 wc => ∃ (kq : Nat) (x23_3 : Bool), v23 = .bool x23_3 ∧ Aside0 (estreatlaw03_CrcTurned.j0 kq l0 a1 a2 x23_3 = some r) ∧ Aside0 (kq ≤ k) ∧ Aside0 (Below w.heap.size w wc))
  case first =>
    have H := HC4.out
    clear HC4
    by_cases c5 : (l0.length : Int) > 2000
    · rw [if_pos c5] at H
      have c5b0 : decide (2000 < (l0.length : Int)) = true := decide_eq_true c5
      have c5b1 : decide (2000 < l0.length) = true := decide_eq_true (by omega)
      clear c5
      (first | rw [c5b0] | (simp only [i64_w, i32_w]; rw [c5b0]) | skip)
      have H' := Aside0.mk H
      clear H
      go_wp2
      go_meet
      case rel => exact ⟨_, (true), (by first | rfl | (simp; done) | (simp [*]; done)), H', ⟨by first | omega | exact Nat.le_refl _⟩, ⟨by repeat (first | (with_reducible first | exact HB.out | apply below_alloc | apply pw_below_drewN | apply below_drew1) | exact HB.out)⟩⟩
    · rw [if_neg c5] at H
      have c5b0 : decide (2000 < (l0.length : Int)) = false := decide_eq_false c5
      have c5b1 : decide (2000 < l0.length) = false := decide_eq_false (by omega)
      clear c5
      (first | rw [c5b0] | (simp only [i64_w, i32_w]; rw [c5b0]) | skip)
      by_cases c6 : (l0.length : Int) < 5
      · rw [if_pos c6] at H
        have c6b0 : decide ((l0.length : Int) < 5) = true := decide_eq_true c6
        have c6b1 : decide (l0.length < 5) = true := decide_eq_true (by omega)
        clear c6
        have H' := Aside0.mk H
        clear H
        go_wp2
        go_meet
        case rel => exact ⟨_, (true), (by first | rfl | (simp; done) | (simp [*]; done)), H', ⟨by first | omega | exact Nat.le_refl _⟩, ⟨by repeat (first | (with_reducible first | exact HB.out | apply below_alloc | apply pw_below_drewN | apply below_drew1) | exact HB.out)⟩⟩
      · rw [if_neg c6] at H
        have c6b0 : decide ((l0.length : Int) < 5) = false := decide_eq_false c6
        have c6b1 : decide (l0.length < 5) = false := decide_eq_false (by omega)
        clear c6
        have H' := Aside0.mk H
        clear H
        go_wp2
        go_meet
        case rel => exact ⟨_, ((a2 == 0)), (by first | rfl | (simp; done) | (simp [*]; done)), H', ⟨by first | omega | exact Nat.le_refl _⟩, ⟨by repeat (first | (with_reducible first | exact HB.out | apply below_alloc | apply pw_below_drewN | apply below_drew1) | exact HB.out)⟩⟩
  case rest =>
    clear HC4
    try clear p2
    try clear c5
    try clear c5b0
    try clear c5b1
    try clear c6
    try clear c6b0
    try clear c6b1
    obtain ⟨kq, x23_3, rfl, HA, HJ3, HB⟩ := hcut
    cases kq with
    | zero => exact absurd HA.out (by simp [estreatlaw03_CrcTurned.j0])
    | succ kj3 =>
      have H := HA.out
      clear HA
      simp only [estreatlaw03_CrcTurned.j0] at H
      by_cases c7 : x23_3 = true
      · subst c7
        have H1 : ((estreatlaw03_awake.f).bind fun t102 => (some t102)) = some r := by rw [if_pos rfl] at H; exact H
        clear H
        have H := H1
        clear H1
        replace H := Option.bind_eq_some_iff.mp H
        obtain ⟨t102, A80, H⟩ := H
        replace H : (some t102) = some r := H
        have A8 := Aside0.mk A80
        clear A80
        obtain rfl := Option.some.inj H
        go_wp2_with (first | ((with_reducible refine gate_callee (f := 10) rfl ?_); refine goesL_ (some 24) rfl rfl Try.func10 (by kernel_rfl) rfl #[] rfl (by (try simp only [List.map_toArray, List.map_cons, List.map_nil]); first | done | rfl | (simp only [List.length_drop, List.length_take]; rfl)) ?_; (with_reducible refine (estreatlaw03_awake.calls  t102 _ A8.out).mono ?_); rintro e w9 ⟨rfl, hb⟩; refine ⟨_, rfl, ?_⟩; have n0_ := Aside0.mk (below_step (by repeat (first | (with_reducible first | exact HB.out | apply below_alloc | apply pw_below_drewN | apply below_drew1) | exact HB.out)) hb); clear HB; have HB := n0_; clear n0_; (try clear hb); (try clear hb2); (try clear hk); (try clear hi)))
        go_ret
        exact ⟨by first | rfl | (simp [errW_none, errW_some] <;> rfl) | (simp [*, errW_none, errW_some] <;> rfl), by repeat (first | (with_reducible first | exact HB.out | apply below_alloc | apply pw_below_drewN | apply below_drew1) | exact HB.out)⟩
      · replace c7 := Bool.eq_false_iff.mpr c7
        subst c7
        have H1 : ((some (([] : List Int) : List Int)).bind fun y103 => (if y103.length + l0.length < 140737488355328 then ((estreatref01_Pick.f a1 (wrap64 (8 * (wrap64 ((l0.length : Int) - 4))))).bind fun t109 => (estreatlaw03_CrcTurned.l0 kj3 l0 (y103 ++ l0) t109 (IntKind.u64.wrap (a2)) 0)) else (none))) = some r := by rw [if_neg (show ¬ (false = true) by decide)] at H; exact H
        clear H
        have H := H1
        clear H1
        obtain ⟨y103, hy103⟩ : ∃ y_ : List Int, y_ = (([] : List Int)) := ⟨_, rfl⟩
        replace H : (if y103.length + l0.length < 140737488355328 then ((estreatref01_Pick.f a1 (wrap64 (8 * (wrap64 ((l0.length : Int) - 4))))).bind fun t109 => (estreatlaw03_CrcTurned.l0 kj3 l0 (y103 ++ l0) t109 (IntKind.u64.wrap (a2)) 0)) else (none)) = some r := by first | (rw [hy103]; with_reducible exact H) | (have H2_ := (Option.bind_some _ _).symm.trans H; rw [hy103]; with_reducible exact H2_) | (have H2_ := (Option.bind_some _ _).symm.trans H; with_reducible exact H2_) | with_reducible exact H | (rw [hy103]; exact H) | exact H
        have Ny103 := Aside0.mk hy103
        clear hy103
        by_cases c10 : y103.length + l0.length < 140737488355328
        · rw [if_pos c10] at H
          have LMc10 := Aside0.mk c10
          clear c10
          obtain ⟨y106, hy106⟩ : ∃ y_ : List Int, y_ = (y103 ++ l0) := ⟨_, rfl⟩
          replace H : ((estreatref01_Pick.f a1 (wrap64 (8 * (wrap64 ((l0.length : Int) - 4))))).bind fun t109 => (estreatlaw03_CrcTurned.l0 kj3 l0 y106 t109 (IntKind.u64.wrap (a2)) 0)) = some r := by first | (rw [hy106]; with_reducible exact H) | (have H2_ := (Option.bind_some _ _).symm.trans H; rw [hy106]; with_reducible exact H2_) | (have H2_ := (Option.bind_some _ _).symm.trans H; with_reducible exact H2_) | with_reducible exact H | (rw [hy106]; exact H) | exact H
          have Ny106 := Aside0.mk hy106
          clear hy106
          replace H := Option.bind_eq_some_iff.mp H
          obtain ⟨t109, A110, H⟩ := H
          replace H : (estreatlaw03_CrcTurned.l0 kj3 l0 y106 t109 (IntKind.u64.wrap (a2)) 0) = some r := H
          have A11 := Aside0.mk A110
          clear A110
          have H' := Aside0.mk H
          clear H
          go_wp2_with (first | ((with_reducible refine gate_dst (N := 25) rfl ?_); (try (refine gate_guard (by rfl) ?_; dsimp only)); refine Kd.R_lit (Kd.int .u8) _ 5 ?hg (N := 25) ?hd (xs := ([] : List Int)) (inner := []) (ok := fun _ => True) (okp := fun _ => True) ?hr ?hp (fun _ hk => hk) trivial (Below.refl _ _) (Nat.le_refl _) (by simp) ?_; (case hd => rfl); (case hg => rfl); (case hr => first | (go_simp; done) | (go_simp; rfl)); (case hp => exact (Reps.none _ _)); intro v104 w12 ho13 hb hg_ hnew_; clear hg_ hnew_; (first | rw [← Ny103.out] at ho13 | (simp only [Int.reduceToNat] at ho13; rw [← Ny103.out] at ho13)); have n0_ := Aside0.mk (Kd.R_lower ho13 (below_size (by repeat (first | (with_reducible first | exact HB.out | apply below_alloc | apply pw_below_drewN | apply below_drew1) | exact HB.out)))); have n1_ := Aside0.mk (below_step (by repeat (first | (with_reducible first | exact HB.out | apply below_alloc | apply pw_below_drewN | apply below_drew1) | exact HB.out)) hb); clear HB; have HO105 := n0_; have HB := n1_; clear n0_ n1_; clear hb ho13) | ((with_reducible refine gate_builtin (b := .append) (xs := #[.tmp 25, .tmp 26]) rfl ?_); (try (refine gate_guard (by rfl) ?_; dsimp only)); at_builtin; refine Kd.R_append_rows (Kd.int .u8) (w0 := w) w.heap.size rfl (.tmp 25) (.tmp 26) 23 5 (.int .u8 0) 1 rfl Try.underlying23 info5 rfl (by decide) (by omega) v104 y103 l0 _ _ _ (fun _ => True) (fun _ => False) rfl rfl ?aO ?aR (fun _ _ h => h) (fun _ h => h.elim) ?aF ?aB ?aS ?aL ?_; (case aR => repeat (first | exact (Kd.C_below HR0.out HB.out) | (with_reducible refine Kd.C_alloc ?_ _) | (with_reducible refine Kd.C_drewN ?_ _) | (with_reducible refine Kd.C_drew ?_))); (case aB => exact (by repeat (first | (with_reducible first | exact HB.out | apply below_alloc | apply pw_below_drewN | apply below_drew1) | exact HB.out))); (case aF => exact (fun _ _ => trivial)); (case aO => exact (by (with_reducible repeat (first | apply Kd.R_alloc | apply Kd.R_drewN | apply Kd.R_drew)); exact HO105.out)); (case aS => exact (below_size (by repeat (first | (with_reducible first | exact HB.out | apply below_alloc | apply pw_below_drewN | apply below_drew1) | exact HB.out)))); (case aL => have := LMc10.out; omega); intro v107 w14 ho hb hg hat; rw [← Ny106.out] at ho; have n0_ := Aside0.mk (hb); have n1_ := Aside0.mk (ho); clear HB; clear HO105; have HB := n0_; have HO108 := n1_; clear n0_ n1_; clear ho hb hg hat) | ((with_reducible refine gate_callee (f := 11) rfl ?_); refine goesL_ (some 33) rfl rfl Try.func11 (by kernel_rfl) rfl #[.int .i64 a1, .int .i64 (wrap64 (8 * (wrap64 ((l0.length : Int) - 4))))] rfl (by (try simp only [List.map_toArray, List.map_cons, List.map_nil]); first | done | rfl | (simp only [List.length_drop, List.length_take]; rfl)) ?_; (with_reducible refine (estreatref01_Pick.calls a1 (wrap64 (8 * (wrap64 ((l0.length : Int) - 4)))) t109 _ A11.out).mono ?_); rintro e w15 ⟨rfl, hb⟩; refine ⟨_, rfl, ?_⟩; have n0_ := Aside0.mk (Kd.R_below (by (with_reducible repeat (first | apply Kd.R_alloc | apply Kd.R_drewN | apply Kd.R_drew)); exact HO108.out) hb); have n1_ := Aside0.mk (below_step (by repeat (first | (with_reducible first | exact HB.out | apply below_alloc | apply pw_below_drewN | apply below_drew1) | exact HB.out)) hb); clear HO108; clear HB; have HO108 := n0_; have HB := n1_; clear n0_ n1_; (try clear hb); (try clear hb2); (try clear hk); (try clear hi)))
          go_loopg [9, 10] kj3 (fun kq v9 v10 w' => ∃ (x9_2 : Int) (x10_2 : Int), v9 = .int .u64 x9_2 ∧ v10 = .int .i64 x10_2 ∧ Aside0 (estreatlaw03_CrcTurned.l0 kq l0 y106 t109 x9_2 x10_2 = some r) ∧ Aside0 (kq ≤ kj3) ∧ Aside0 (Kd.R (Kd.int .u8) 5 w' w.heap.size (fun _ => True) v107 y106) ∧ Aside0 (Below w.heap.size w w'))
          case atStart => exact ⟨(IntKind.u64.wrap (a2)), (0), (by first | rfl | (simp; done) | (simp [*]; done)), (by first | rfl | (simp; done) | (simp [*]; done)), H', ⟨Nat.le_refl _⟩, ⟨by (with_reducible repeat (first | apply Kd.R_alloc | apply Kd.R_drewN | apply Kd.R_drew)); exact HO108.out⟩, ⟨by repeat (first | (with_reducible first | exact HB.out | apply below_alloc | apply pw_below_drewN | apply below_drew1) | exact HB.out)⟩⟩
          case round =>
            clear H'
            try clear c1
            try clear p2
            try clear c5
            try clear c5b0
            try clear c5b1
            try clear c6
            try clear c6b0
            try clear c6b1
            try clear p6
            try clear c7
            try clear c10
            try clear c11
            try clear p2
            obtain ⟨x9_2, x10_2, rfl, rfl, HA, HK2, HO_7, HB⟩ := hrel
            cases gk with
            | zero => exact absurd HA.out (by simp [estreatlaw03_CrcTurned.l0])
            | succ k2 =>
              have H := HA.out
              clear HA
              simp only [estreatlaw03_CrcTurned.l0] at H
              by_cases c16 : x10_2 < (Int.tmod t109 8)
              · rw [if_pos c16] at H
                have c16b0 : decide (x10_2 < (Int.tmod t109 8)) = true := decide_eq_true c16
                clear c16
                have H' := Aside0.mk H
                clear H
                go_wp2
                go_roundg k2
                case measure => have := HJ3.out; have := HK2.out; omega
                case rel => exact ⟨(IntKind.u64.wrap (x9_2 * 2)), (wrap64 (x10_2 + 1)), (by first | rfl | (simp; done) | (simp [*]; done)), (by first | rfl | (simp; done) | (simp [*]; done)), H', ⟨by have := HJ3.out; have := HK2.out; omega⟩, ⟨by (with_reducible repeat (first | apply Kd.R_alloc | apply Kd.R_drewN | apply Kd.R_drew)); exact HO_7.out⟩, ⟨by repeat (first | (with_reducible first | exact HB.out | apply below_alloc | apply pw_below_drewN | apply below_drew1) | exact HB.out)⟩⟩
              · rw [if_neg c16] at H
                have c16b0 : decide (x10_2 < (Int.tmod t109 8)) = false := decide_eq_false c16
                clear c16
                have H' := Aside0.mk H
                clear H
                go_wp2
                go_loopg [9, 11] k2 (fun kq v9 v11 w' => ∃ (x7_3 : List Int) (x9_3 : Int) (x11_3 : Int), v9 = .int .u64 x9_3 ∧ v11 = .int .i64 x11_3 ∧ Aside0 (estreatlaw03_CrcTurned.l1 kq l0 x7_3 t109 x9_3 x11_3 = some r) ∧ Aside0 (kq ≤ k2) ∧ Aside0 (Kd.R (Kd.int .u8) 5 w' w.heap.size (fun _ => True) v107 x7_3) ∧ Aside0 (Below w.heap.size w w'))
                case atStart => exact ⟨(y106), (x9_2), (wrap64 (Int.tdiv t109 8)), (by first | rfl | (simp; done) | (simp [*]; done)), (by first | rfl | (simp; done) | (simp [*]; done)), H', ⟨Nat.le_refl _⟩, ⟨by (with_reducible repeat (first | apply Kd.R_alloc | apply Kd.R_drewN | apply Kd.R_drew)); exact HO_7.out⟩, ⟨by repeat (first | (with_reducible first | exact HB.out | apply below_alloc | apply pw_below_drewN | apply below_drew1) | exact HB.out)⟩⟩
                case round =>
                  clear H'
                  try clear c1
                  try clear p2
                  try clear c5
                  try clear c5b0
                  try clear c5b1
                  try clear c6
                  try clear c6b0
                  try clear c6b1
                  try clear p6
                  try clear c7
                  try clear c10
                  try clear c11
                  try clear c16
                  try clear c16b0
                  try clear p2
                  try clear p6
                  obtain ⟨x7_3, x9_3, x11_3, rfl, rfl, HA, HK3, HO_7, HB⟩ := hrel
                  cases gk with
                  | zero => exact absurd HA.out (by simp [estreatlaw03_CrcTurned.l1])
                  | succ k3 =>
                    have H := HA.out
                    clear HA
                    simp only [estreatlaw03_CrcTurned.l1] at H
                    by_cases c17 : x11_3 < (wrap64 ((wrap64 (Int.tdiv t109 8)) + 5))
                    · rw [if_pos c17] at H
                      have c17b0 : decide (x11_3 < (wrap64 ((wrap64 (Int.tdiv t109 8)) + 5))) = true := decide_eq_true c17
                      clear c17
                      by_cases c18 : 0 ≤ x11_3
                      · rw [if_pos c18] at H
                        have c18b0 : decide (0 ≤ x11_3) = true := decide_eq_true c18
                        clear c18
                        by_cases c19 : x11_3 < (x7_3.length : Int)
                        · rw [if_pos c19] at H
                          have c19b0 : decide (x11_3 < (x7_3.length : Int)) = true := decide_eq_true c19
                          clear c19
                          obtain ⟨y111, hy111⟩ : ∃ y_ : List Int, y_ = (x7_3.set (x11_3 : Int).toNat (Go.bits .xor .u8 (rd x7_3 x11_3) ((Int.tmod x9_3 256) % 256))) := ⟨_, rfl⟩
                          replace H : (estreatlaw03_CrcTurned.l1 k3 l0 y111 t109 (IntKind.u64.wrap (Int.tdiv x9_3 256)) (wrap64 (x11_3 + 1))) = some r := by first | (rw [hy111]; with_reducible exact H) | (have H2_ := (Option.bind_some _ _).symm.trans H; rw [hy111]; with_reducible exact H2_) | (have H2_ := (Option.bind_some _ _).symm.trans H; with_reducible exact H2_) | with_reducible exact H | (rw [hy111]; exact H) | exact H
                          have Ny111 := Aside0.mk hy111
                          clear hy111
                          have H' := Aside0.mk H
                          clear H
                          obtain ⟨Ao21, co21, eo21⟩ := Kd.R_slice HO_7.out
                          subst eo21
                          have p110 : 0 ≤ (x11_3 : Int) := of_decide_eq_true (by first | (with_reducible assumption) | assumption)
                          have q110 : x11_3 < (x7_3.length : Int) := of_decide_eq_true (by first | (with_reducible assumption) | assumption)
                          obtain ⟨ad110, e110, hx110_0⟩ := Kd.at_int (Kd.R_reads' HO_7.out).2.2 x11_3 p110 q110
                          cases e110
                          replace p110 := eq_true p110
                          replace q110 := eq_true q110
                          have p20 : 0 ≤ (x11_3 : Int) := of_decide_eq_true (by first | (with_reducible assumption) | assumption)
                          have q20 : (x11_3 : Int) < ((x7_3.length : Int) : Int) := of_decide_eq_true (by first | (with_reducible assumption) | assumption)
                          obtain ⟨go20, co20, eo20, gb20, gl20, cl20, HG20⟩ := Kd.R_form HO_7.out (by omega)
                          (first | cases eo20 | (injection eo20 with ea_ en_ ec_; (first | subst ea_ | (injection ea_ with ea_; subst ea_)); subst ec_; clear en_))
                          have GB20 := Aside0.mk gb20
                          have GG20 := Aside0.mk HG20
                          clear gb20 gl20 HG20
                          (first | simp only [add_plain] at hx110_0 | skip)
                          obtain ⟨hx20_0, hf20_0⟩ := Kd.R_celln 0 HO_7.out (x11_3 : Int) p20 q20
                          replace p20 := eq_true p20
                          replace q20 := eq_true q20
                          have HP22 := Kd.R_putg HO_7.out (x11_3 : Int) (Go.bits .xor .u8 (rd x7_3 x11_3) ((Int.tmod x9_3 256) % 256))
                          go_wp2_with (first | ((with_reducible refine gate_store (t := 5) (p := 63) rfl ?_); refine store_event (t := 5) (p := 63) (v := ?vo_w23) (w1 := (wr.setCell ⟨go20, (x11_3 : Int).toNat, none⟩ (.int .u8 (Go.bits .xor .u8 (rd x7_3 x11_3) ((Int.tmod x9_3 256) % 256))))) ?hg ?ho ?hn ?hr ?_; (case ho => rfl); (case hg => rfl); (case hn => rfl); (case hr => first | (go_simp; done) | (go_simp; rfl)); intro w23 hw; have hg : wr.grownBy w23 (some go20) := (by rw [hw]; exact HP22.2); have hp_ : Kd.R (Kd.int .u8) 5 w23 w.heap.size (fun _ => True) (.slice (some ⟨go20, 0, none⟩) x7_3.length co21) y111 := (by rw [hw, Ny111.out]; exact HP22.1); clear HP22; have n0_ := Aside0.mk (hp_); have n1_ := Aside0.mk ((by rw [hw]; exact below_set (HB.out) GB20.out : Below w.heap.size w w23)); clear HO_7; clear HB; have HO_7 := n0_; have HB := n1_; clear n0_ n1_; clear hg hw hp_))
                          go_roundg k3
                          case measure => have := HJ3.out; have := HK2.out; have := HK3.out; omega
                          case rel => exact ⟨(y111), (IntKind.u64.wrap (Int.tdiv x9_3 256)), (wrap64 (x11_3 + 1)), (by first | rfl | (simp; done) | (simp [*]; done)), (by first | rfl | (simp; done) | (simp [*]; done)), H', ⟨by have := HJ3.out; have := HK2.out; have := HK3.out; omega⟩, ⟨by (with_reducible repeat (first | apply Kd.R_alloc | apply Kd.R_drewN | apply Kd.R_drew)); exact HO_7.out⟩, ⟨by repeat (first | (with_reducible first | exact HB.out | apply below_alloc | apply pw_below_drewN | apply below_drew1) | exact HB.out)⟩⟩
                        · rw [if_neg c19] at H
                          exact absurd H (by simp)
                      · rw [if_neg c18] at H
                        exact absurd H (by simp)
                    · rw [if_neg c17] at H
                      have c17b0 : decide (x11_3 < (wrap64 ((wrap64 (Int.tdiv t109 8)) + 5))) = false := decide_eq_false c17
                      clear c17
                      replace H := Option.bind_eq_some_iff.mp H
                      obtain ⟨t112, A240, H⟩ := H
                      replace H : ((crc_Sum.f l0).bind fun t113 => (if t112 = t113 then (some false) else ((estreatlaw03_awake.f).bind fun t114 => (some t114)))) = some r := H
                      have A24 := Aside0.mk A240
                      clear A240
                      replace H := Option.bind_eq_some_iff.mp H
                      obtain ⟨t113, A250, H⟩ := H
                      replace H : (if t112 = t113 then (some false) else ((estreatlaw03_awake.f).bind fun t114 => (some t114))) = some r := H
                      have A25 := Aside0.mk A250
                      clear A250
                      by_cases c26 : t112 = t113
                      · rw [if_pos c26] at H
                        have c26b0 : (t112 == t113) = true := beq_iff_eq.mpr c26
                        have c26b1 : (t112 != t113) = false := bne_eq_false_iff_eq.mpr c26
                        clear c26
                        obtain rfl := Option.some.inj H
                        obtain ⟨Ao27, co27, eo27⟩ := Kd.R_slice HO_7.out
                        subst eo27
                        go_wp2_with (first | ((with_reducible refine gate_callee (f := 9) rfl ?_); refine goesL_ (some 67) rfl rfl Try.func9 (by kernel_rfl) rfl #[.slice Ao27 x7_3.length co27] rfl (by (try simp only [List.map_toArray, List.map_cons, List.map_nil]); first | done | rfl | (simp only [List.length_drop, List.length_take]; rfl)) ?_; (with_reducible refine (crc_Sum.calls _ _ x7_3 t112 _ ?side1 ?side2 A24.out).mono ?_); (case side1 => repeat (first | exact (Kd.R_reads' HO_7.out).2.2 | (with_reducible refine Kd.C_alloc ?_ _) | (with_reducible refine Kd.C_drewN ?_ _) | (with_reducible refine Kd.C_drew ?_))); (case side2 => exact (Kd.R_reads' HO_7.out).2.1); rintro e w28 ⟨rfl, hb⟩; refine ⟨_, rfl, ?_⟩; have n0_ := Aside0.mk (Kd.R_below (by (with_reducible repeat (first | apply Kd.R_alloc | apply Kd.R_drewN | apply Kd.R_drew)); exact HO_7.out) hb); have n1_ := Aside0.mk (below_step (by repeat (first | (with_reducible first | exact HB.out | apply below_alloc | apply pw_below_drewN | apply below_drew1) | exact HB.out)) hb); clear HO_7; clear HB; have HO_7 := n0_; have HB := n1_; clear n0_ n1_; (try clear hb); (try clear hb2); (try clear hk); (try clear hi)) | ((with_reducible refine gate_callee (f := 9) rfl ?_); refine goesL_ (some 69) rfl rfl Try.func9 (by kernel_rfl) rfl #[.slice A0 l0.length c0] rfl (by (try simp only [List.map_toArray, List.map_cons, List.map_nil]); first | done | rfl | (simp only [List.length_drop, List.length_take]; rfl)) ?_; (with_reducible refine (crc_Sum.calls _ _ l0 t113 _ ?side1 ?side2 A25.out).mono ?_); (case side1 => repeat (first | exact (Kd.C_below HR0.out HB.out) | (with_reducible refine Kd.C_alloc ?_ _) | (with_reducible refine Kd.C_drewN ?_ _) | (with_reducible refine Kd.C_drew ?_))); (case side2 => exact HC0.out); rintro e w29 ⟨rfl, hb⟩; refine ⟨_, rfl, ?_⟩; have n0_ := Aside0.mk (Kd.R_below (by (with_reducible repeat (first | apply Kd.R_alloc | apply Kd.R_drewN | apply Kd.R_drew)); exact HO_7.out) hb); have n1_ := Aside0.mk (below_step (by repeat (first | (with_reducible first | exact HB.out | apply below_alloc | apply pw_below_drewN | apply below_drew1) | exact HB.out)) hb); clear HO_7; clear HB; have HO_7 := n0_; have HB := n1_; clear n0_ n1_; (try clear hb); (try clear hb2); (try clear hk); (try clear hi)))
                        go_ret
                        exact ⟨by first | rfl | (simp [errW_none, errW_some] <;> rfl) | (simp [*, errW_none, errW_some] <;> rfl), by repeat (first | (with_reducible first | exact HB.out | apply below_alloc | apply pw_below_drewN | apply below_drew1) | exact HB.out)⟩
                      · rw [if_neg c26] at H
                        have c26b0 : (t112 == t113) = false := beq_eq_false_iff_ne.mpr c26
                        have c26b1 : (t112 != t113) = true := bne_iff_ne.mpr c26
                        replace H := Option.bind_eq_some_iff.mp H
                        obtain ⟨t114, A300, H⟩ := H
                        replace H : (some t114) = some r := H
                        have A30 := Aside0.mk A300
                        clear A300
                        obtain rfl := Option.some.inj H
                        obtain ⟨Ao31, co31, eo31⟩ := Kd.R_slice HO_7.out
                        subst eo31
                        go_wp2_with (first | ((with_reducible refine gate_callee (f := 9) rfl ?_); refine goesL_ (some 67) rfl rfl Try.func9 (by kernel_rfl) rfl #[.slice Ao31 x7_3.length co31] rfl (by (try simp only [List.map_toArray, List.map_cons, List.map_nil]); first | done | rfl | (simp only [List.length_drop, List.length_take]; rfl)) ?_; (with_reducible refine (crc_Sum.calls _ _ x7_3 t112 _ ?side1 ?side2 A24.out).mono ?_); (case side1 => repeat (first | exact (Kd.R_reads' HO_7.out).2.2 | (with_reducible refine Kd.C_alloc ?_ _) | (with_reducible refine Kd.C_drewN ?_ _) | (with_reducible refine Kd.C_drew ?_))); (case side2 => exact (Kd.R_reads' HO_7.out).2.1); rintro e w32 ⟨rfl, hb⟩; refine ⟨_, rfl, ?_⟩; have n0_ := Aside0.mk (Kd.R_below (by (with_reducible repeat (first | apply Kd.R_alloc | apply Kd.R_drewN | apply Kd.R_drew)); exact HO_7.out) hb); have n1_ := Aside0.mk (below_step (by repeat (first | (with_reducible first | exact HB.out | apply below_alloc | apply pw_below_drewN | apply below_drew1) | exact HB.out)) hb); clear HO_7; clear HB; have HO_7 := n0_; have HB := n1_; clear n0_ n1_; (try clear hb); (try clear hb2); (try clear hk); (try clear hi)) | ((with_reducible refine gate_callee (f := 9) rfl ?_); refine goesL_ (some 69) rfl rfl Try.func9 (by kernel_rfl) rfl #[.slice A0 l0.length c0] rfl (by (try simp only [List.map_toArray, List.map_cons, List.map_nil]); first | done | rfl | (simp only [List.length_drop, List.length_take]; rfl)) ?_; (with_reducible refine (crc_Sum.calls _ _ l0 t113 _ ?side1 ?side2 A25.out).mono ?_); (case side1 => repeat (first | exact (Kd.C_below HR0.out HB.out) | (with_reducible refine Kd.C_alloc ?_ _) | (with_reducible refine Kd.C_drewN ?_ _) | (with_reducible refine Kd.C_drew ?_))); (case side2 => exact HC0.out); rintro e w33 ⟨rfl, hb⟩; refine ⟨_, rfl, ?_⟩; have n0_ := Aside0.mk (Kd.R_below (by (with_reducible repeat (first | apply Kd.R_alloc | apply Kd.R_drewN | apply Kd.R_drew)); exact HO_7.out) hb); have n1_ := Aside0.mk (below_step (by repeat (first | (with_reducible first | exact HB.out | apply below_alloc | apply pw_below_drewN | apply below_drew1) | exact HB.out)) hb); clear HO_7; clear HB; have HO_7 := n0_; have HB := n1_; clear n0_ n1_; (try clear hb); (try clear hb2); (try clear hk); (try clear hi)) | (go_at_call 10; (with_reducible refine (estreatlaw03_awake.calls  t114 _ A30.out).mono ?_); rintro e w34 ⟨rfl, hb⟩; have n0_ := Aside0.mk (Kd.R_below (by (with_reducible repeat (first | apply Kd.R_alloc | apply Kd.R_drewN | apply Kd.R_drew)); exact HO_7.out) hb); have n1_ := Aside0.mk (below_step (by repeat (first | (with_reducible first | exact HB.out | apply below_alloc | apply pw_below_drewN | apply below_drew1) | exact HB.out)) hb); clear HO_7; clear HB; have HO_7 := n0_; have HB := n1_; clear n0_ n1_; (try clear hb); (try clear hb2); (try clear hk); (try clear hi)))
                        go_ret
                        exact ⟨by first | rfl | (simp [errW_none, errW_some] <;> rfl) | (simp [*, errW_none, errW_some] <;> rfl), by repeat (first | (with_reducible first | exact HB.out | apply below_alloc | apply pw_below_drewN | apply below_drew1) | exact HB.out)⟩
        · rw [if_neg c10] at H
          exact absurd H (by simp)

/-- THE ONE PURE STATEMENT of estreatlaw03_CrcTurned: yours. -/
def estreatlaw03_CrcTurned.Pure : Prop := ∀ (l0 : List Int) (a1 : Int) (a2 : Int), l0.length ≤ maxLen → l0.length * 1 ≤ 140737488351232 → (∀ x ∈ l0, (Lit.int .u8 x).wf = true) → (Lit.int .i64 a1).wf = true → (Lit.int .u32 a2).wf = true → ∃ k, estreatlaw03_CrcTurned.f k l0 a1 a2 = some true
theorem estreatlaw03_CrcTurned.walk (P : estreatlaw03_CrcTurned.Pure) (a0 : Option Addr) (len0 cap0 : Nat) (z0 : List Int) (a1 : Int) (a2 : Int) (w : World) (w0 : (a0 = none ∧ len0 = 0 ∧ cap0 = 0 ∧ z0 = []) ∨ ∃ x, a0 = some x ∧ len0 ≤ cap0 ∧ cap0 ≤ maxLen ∧ z0.length = cap0 ∧ (∀ i, i < z0.length → w.cell? (x.add i) = some (.int .u8 (z0.getD i 0))) ∧ ∀ n ∈ z0, (Lit.int .u8 n).wf = true) (y0 : len0 * 1 ≤ 140737488351232) (w1 : (Lit.int .i64 a1).wf = true) (w2 : (Lit.int .u32 a2).wf = true) :
    Calls Try.prog 5 #[.slice a0 len0 cap0, .int .i64 a1, .int .u32 a2] w fun e w' => e = .returned (.bool true) ∧ Below w.heap.size w w' := by
  obtain ⟨l0, rfl, hr0, hm0, hw0, hc0⟩ := ReadsInt.ofRowC w0
  obtain ⟨k, h⟩ := P l0 a1 a2 hm0 y0 hw0 w1 w2
  refine (estreatlaw03_CrcTurned.calls k _ _ l0 a1 a2 true w (Kd.C_of_reads (d := (0 : Int)) (h1 := fun _ => rfl) hr0) hc0 h).mono ?_
  rintro e w' ⟨rfl, hd⟩
  exact ⟨rfl, hd⟩

end Go.Proofs.Ytdabdhimidfofaa.PCrcTurned

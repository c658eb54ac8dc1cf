/- Texts, put into one. -/
import Derived.Test.YtjmhiklmlgbifaaGreatDoorPT13
import Derived.Test.YtjmhiklmlgbifaaGreatDoorPTW
set_option linter.unusedVariables false
set_option linter.unusedSimpArgs false
open Go Go.RowKit Go.Proofs.YtjmhiklmlgbifaaGreatDoorW.PrintWords Go.Proofs.YtjmhiklmlgbifaaGreatDoorW.PrintLast Go.Proofs.YtjmhiklmlgbifaaGreatDoorW.PrintMore
namespace Go.Proofs.YtjmhiklmlgbifaaGreatDoor.PMan
section
attribute [local go_sem] max2_int min2_int max_two min_two max_three min_three max_four min_four
theorem crc_info : (Tryz.prog.info? 170).map (fun i => (i.zero, i.size)) = some (some (.agg (Array.replicate 256 (.int .u32 0))), 256) := by kernel_rfl
def crc_bit (v : Int) : Int := if Go.bits .and .u32 v 1 = 1 then Go.bits .xor .u32 (v / 2) 3988292384 else v / 2
def crc_bits : Nat → Int → Int
 | 0, v => v
 | n + 1, v => crc_bit (crc_bits n v)
def crc_cells (k : Nat) : Array Value := Array.ofFn (n := 256) (fun j => .int .u32 (if j.val < k then crc_bits 8 j.val else 0))
theorem crc_cells_zero : crc_cells 0 = Array.replicate 256 (.int .u32 0) := by
 apply Array.ext
 ·simp [crc_cells]
 ·intro i h1 h2
  simp [crc_cells]
theorem crc_cells_succ (k : Nat) : (crc_cells k).setIfInBounds k (.int .u32 (crc_bits 8 k)) = crc_cells (k + 1) := by
 apply Array.ext
 ·simp [crc_cells]
 ·intro i h1 h2
  have h3 : i < (crc_cells k).size := by simpa using h1
  rw [Array.getElem_setIfInBounds h3]
  simp only [crc_cells, Array.getElem_ofFn]
  by_cases e : k = i
  ·subst e
   simp
  ·rw [if_neg e]
   by_cases l : i < k
   ·rw [if_pos l, if_pos (by omega)]
   ·rw [if_neg l, if_neg (by omega)]
theorem below_setRow {B : Nat} {a w : World} (h : Below B a w) {g : Nat} {cs : Array Value} (hg : B ≤ g) : Below B a (w.setRow g cs) :=
 ⟨h.os, h.tape, h.output, by rw [size_setRow]; exact h.size, fun i hi => (setRow_other w g i cs (by omega)).trans (h.block i hi)⟩
theorem crc_cells_size (k : Nat) : (crc_cells k).size = 256 := by simp [crc_cells]
theorem crc_cells_one (k : Nat) : (crc_cells k).all (·.oneCell') = true := by
 rw [Array.all_eq_true]
 intro i h
 simp [crc_cells, Value.oneCell']
set_option maxHeartbeats 400000 in
set_option maxRecDepth 100000 in
theorem crc_reckon_calls (w : World) :
  Calls Tryz.prog 130 #[] w fun e w' => e = .returned (.agg (crc_cells 256)) ∧ Below w.heap.size w w' := by
 have hz := (zero_of_info crc_info).1
 go_enter Tryz.func130, Tryz.ntmps130
 go_wp2
 go_loopw [4] (fun v4 w' => ∃ (k : Nat) (c : Array Value), k ≤ 256 ∧ v4 = .int .i64 k ∧ w' = (w.alloc (Obj.cells (Array.replicate 256 (Value.int IntKind.u32 0)) 170)).alloc (Obj.cells c 170) ∧ Aside0 (c = crc_cells k)) (fun i _ => 256 - (intOf i).toNat)
 case atStart => exact ⟨0, _, by omega, rfl, rfl, ⟨by rw [crc_cells_zero]⟩⟩
 case round =>
  obtain ⟨k, c, hk, rfl, rfl, HC⟩ := hrel
  by_cases hlt : k < 256
  ·obtain ⟨cv, hcv⟩ : ∃ cv, c[k]? = some cv := ⟨_, Array.getElem?_eq_getElem (by rw [HC.out, crc_cells_size]; exact hlt)⟩
   go_wp2
   go_loop [3, 9] (fun v n => ∃ (j : Nat) (x : Int), j ≤ 8 ∧ n = .int .i64 j ∧ v = .int .u32 x ∧ Aside0 (x = crc_bits j k)) (fun _ i => 8 - (intOf i).toNat)
   case atStart => exact ⟨0, k, by omega, rfl, by go_num, ⟨rfl⟩⟩
   case round =>
    obtain ⟨j, v, hj, rfl, rfl, HV⟩ := hrel
    by_cases hj8 : j < 8
    ·have hs : crc_bits (j + 1) k = crc_bit v := by rw [HV.out]; rfl
     unfold crc_bit at hs
     by_cases hb : Go.bits .and .u32 v 1 = 1
     ·rw [if_pos hb] at hs
      have HS := am hs
      have hb1 : (Go.bits .and .u32 v 1 == 1) = true := by simpa using hb
      clear hs hb
      go_wp2
      go_round
      case rel => exact ⟨j + 1, _, by omega, by go_num, rfl, ⟨HS.out.symm⟩⟩
      case measure => simp [intOf]; omega
     ·rw [if_neg hb] at hs
      have HS := am hs
      have hb1 : (Go.bits .and .u32 v 1 == 1) = false := by simpa using hb
      clear hs hb
      go_wp2
      go_round
      case rel => exact ⟨j + 1, _, by omega, by go_num, rfl, ⟨HS.out.symm⟩⟩
      case measure => simp [intOf]; omega
    ·go_wp2
     go_roundw
     case rel =>
      obtain rfl : j = 8 := by omega
      obtain rfl := HC.out
      refine ⟨k + 1, _, by omega, by go_num, ?_, ⟨crc_cells_succ k⟩⟩
      rw [← HV.out]
     case measure => simp [intOf]; omega
  ·obtain rfl : k = 256 := by omega
   have hcs : c.size = 256 := by rw [HC.out]; exact crc_cells_size 256
   have hone : c.all (·.oneCell') = true := by rw [HC.out]; exact crc_cells_one 256
   have hcs1 : c.all (·.oneCell') = true := hone
   have hin := (zero_of_info crc_info).2
   have h0 := heap_alloc2_old w (Obj.cells (Array.replicate 256 (Value.int IntKind.u32 0)) 170) (Obj.cells c 170)
   have h1 := heap_alloc2_new w (Obj.cells (Array.replicate 256 (Value.int IntKind.u32 0)) 170) (Obj.cells c 170)
   have HL := am h1
   have HS := am h0
   have HI := am hin
   have HCS := am hcs
   have HC1 := am hcs1
   clear h0 h1 hin hcs hcs1 hone
   go_wp2_with (first | (refine wpList_load_row rfl 170 _ rfl (w.heap.size + 1) rfl 170 c (0, 0) _ HL.out Tryz.underlying170 rfl (by rw [HI.out, HCS.out]) ?_) | (refine wpList_store_row rfl 170 _ _ rfl w.heap.size c rfl rfl 170 _ HS.out (by rw [HI.out, HCS.out]) (by rw [HCS.out, Array.size_replicate]) HC1.out ?_))
   refine bodyPost_ret (v := .agg c) ?_ rfl ⟨by rw [HC.out], ?_⟩
   ·refine results_cell_row rfl _ _ w.heap.size 170 c (0, 0) _ rfl ?_ Tryz.underlying170 rfl (by rw [HI.out, HCS.out])
    exact setRow_heap _ _ _ _ _ _ HS.out
   ·exact below_setRow (((Below.refl _ _).alloc (Nat.le_refl _) _).alloc (by simp) _) (Nat.le_refl _)
set_option maxHeartbeats 400000 in
set_option maxRecDepth 100000 in
theorem crc_table_calls (w : World) :
  Calls Tryz.prog 110 #[] w fun e w' => e = .returned (.agg (crc_cells 256)) ∧ Below w.heap.size w w' := by
 have hz := (zero_of_info crc_info).1
 have hcs : (crc_cells 256).size = 256 := crc_cells_size 256
 have hone : (crc_cells 256).all (·.oneCell') = true := crc_cells_one 256
 obtain ⟨c, hc⟩ : ∃ c, c = crc_cells 256 := ⟨_, rfl⟩
 rw [← hc] at hcs hone
 have HC := am hc
 have HCS := am hcs
 have HC1 := am hone
 have HI := am (zero_of_info crc_info).2
 clear hc hcs hone
 go_enter Tryz.func110, Tryz.ntmps110
 go_wp2_with fail
 refine (crc_reckon_calls _).mono ?_
 rintro e w1 ⟨he, hb⟩
 rw [← HC.out] at he
 subst he
 have hz1 : w.heap.size < w1.heap.size := by have := hb.size; simp at this; omega
 have hg := am ((hb.block w.heap.size (by simp)).trans (heap_alloc_new w (Obj.cells (Array.replicate 256 (Value.int IntKind.u32 0)) 170)))
 have hb' : Below w.heap.size w w1 := ((Below.refl w.heap.size w).alloc (Nat.le_refl _) _).trans (hb.mono (by simp))
 have HB := am hb'
 clear hb hb'
 go_wp2_with (refine wpList_store_row rfl 170 _ _ rfl w.heap.size c rfl rfl 170 _ hg.out (by rw [HI.out, HCS.out]) (by rw [HCS.out, Array.size_replicate]) HC1.out ?_)
 refine bodyPost_ret (v := .agg c) ?_ rfl ⟨by rw [HC.out], ?_⟩
 ·exact results_cell_row rfl _ _ w.heap.size 170 c (0, 0) _ rfl (setRow_heap _ _ _ _ _ _ hg.out) Tryz.underlying170 rfl (by rw [HI.out, HCS.out])
 ·exact below_setRow HB.out (Nat.le_refl _)
theorem run_index_agg {P : Program} {t e : TypeId} {n : Nat} {cs : Array Value} {k : IntKind} {i : Int} {v : Value} (h : P.underlying t = some (.array n e)) (h0 : 0 ≤ i) (h1 : i < n) (hv : cs[i.toNat]? = some v) (hs : ∀ w, (sizeOf e).run P w = .ok 1 w) (ha : ∀ w, (isAgg e).run P w = .ok false w) (w : World) :
  (Instr.index t (.agg cs) (.int k i)).run P w = .ok v w := by
 simp [Instr.index, run_underlying h, asIntOf, h0, h1, hv, hs, ha, go_sem]
def crc_step (v c : Int) : Int := Go.bits .xor .u32 (v / 256) (crc_bits 8 (Go.bits .xor .u8 (v % 256) c))
def crc_More.f (a0 : Int) (l1 : List Int) : Option Int := some (Go.bits .xor .u32 IntKind.u32.max (l1.foldl crc_step (Go.bits .xor .u32 IntKind.u32.max a0)))
theorem crc_byte (a b : Int) : 0 ≤ Go.bits .xor .u8 a b ∧ Go.bits .xor .u8 a b < 256 := by
 unfold Go.bits
 simp only [IntKind.wrap_u8]
 omega
theorem crc_at (a b : Int) : (crc_cells 256)[(Go.bits .xor .u8 a b).toNat]? = some (.int .u32 (crc_bits 8 (Go.bits .xor .u8 a b))) := by
 have h := crc_byte a b
 generalize Go.bits .xor .u8 a b = x at *
 have hx : x.toNat < 256 := by omega
 have hi : ((x.toNat : Nat) : Int) = x := by omega
 rw [Array.getElem?_eq_getElem (by rw [crc_cells_size]; exact hx)]
 simp only [crc_cells, Array.getElem_ofFn]
 rw [if_pos hx, hi]
set_option maxHeartbeats 400000 in
set_option maxRecDepth 100000 in
theorem crc_More.calls (a0 : Int) (A1 : Option Addr) (c1 : Nat) (l1 : List Int) (r : Int) (w : World) (hr1 : Kd.C (Kd.int .u8) w A1 l1.length l1) (hc1 : l1.length ≤ c1) (h : crc_More.f a0 l1 = some r) :
  Calls Tryz.prog 72 #[.int .u32 a0, .slice A1 l1.length c1] w fun e w' => e = .returned (.int .u32 r) ∧ Below w.heap.size w w' := by
 have H := am (Option.some.inj h)
 have HR := am hr1
 have HM := am (Kd.C_max hr1)
 have HC1 := am hc1
 obtain ⟨c, hc⟩ : ∃ c, c = crc_cells 256 := ⟨_, rfl⟩
 have HC := am hc
 clear hr1 hc1 hc h
 go_enter Tryz.func72, Tryz.ntmps72
 go_wp2
 go_loopw [5, 12] (fun v5 i w' => ∃ (k : Nat) (x : Int), k ≤ l1.length ∧ i = .int .i64 k ∧ v5 = .int .u32 x ∧ Aside0 (x = (l1.take k).foldl crc_step (Go.bits .xor .u32 IntKind.u32.max a0)) ∧ Aside0 (Below w.heap.size w w')) (fun _ i _ => l1.length - (intOf i).toNat)
 case atStart => exact ⟨0, _, Nat.zero_le _, rfl, rfl, ⟨rfl⟩, ⟨Below.refl _ _⟩⟩
 case round =>
  obtain ⟨k, x, hk, rfl, rfl, HX, HB⟩ := hrel
  have hm : l1.length ≤ 9223372036854775807 := HM.out
  by_cases hlt : k < l1.length
  ·have hlt' : (k : Int) < (l1.length : Int) := by omega
   obtain ⟨ad, e1, hx1⟩ := Kd.at_int (Kd.C_below HR.out HB.out) (k : Int) (by omega) hlt'
   cases e1
   rw [show ((k : Int)).toNat = k from by omega] at hx1
   have hix := fun (W : World) => run_index_agg (P := Tryz.prog) (k := .u8) (i := Go.bits .xor .u8 (x % 256) (rd l1 k)) Tryz.underlying170 (crc_byte _ _).1 (crc_byte _ _).2 (crc_at (x % 256) (rd l1 k)) (fun _ => by kernel_rfl) (fun _ => by kernel_rfl) W
   rw [← HC.out] at hix
   obtain ⟨y, hy⟩ : ∃ y, y = crc_bits 8 (Go.bits .xor .u8 (x % 256) (rd l1 k)) := ⟨_, rfl⟩
   rw [← hy] at hix
   have HS := am (show crc_step x (rd l1 k) = Go.bits .xor .u32 (x / 256) y by rw [hy]; rfl)
   clear hy
   go_wp2_with (go_at_call 110; refine (crc_table_calls _).mono ?_; rintro e w1 ⟨he, hb1⟩; rw [← HC.out] at he; subst he; have HB1 := am (below_then HB.out HB.out.size hb1); clear hb1)
   go_roundw
   case rel =>
    refine ⟨k + 1, _, by omega, by go_num, rfl, ⟨?_⟩, HB1⟩
    rw [List.take_succ_eq_append_getElem hlt, List.foldl_append, ← HX.out]
    show _ = crc_step x l1[k]
    have hrd : rd l1 k = l1[k] := by simp [rd, hlt]
    rw [← hrd]
    exact HS.out.symm
   case measure => simp [intOf]; omega
  ·obtain rfl : k = l1.length := by omega
   go_wp2
   go_ret
   rw [← H.out, HX.out, List.take_length]
   exact ⟨rfl, HB.out⟩
def crc_Sum.f (l0 : List Int) : Option (Int) := (crc_More.f 0 l0).bind fun t134 => (some t134)
set_option maxHeartbeats 8000000 in
set_option maxRecDepth 100000 in
theorem crc_Sum.calls (A0 : Option Addr) (c0 : Nat) (l0 : List Int) (r : Int) (w : World) (hr0 : Kd.C (Kd.int .u8) w A0 l0.length l0) (hc0 : l0.length ≤ c0) (h : crc_Sum.f l0 = some r) :
  Calls Tryz.prog 73 #[.slice A0 l0.length c0] w fun e w' => e = .returned (.int .u32 r) ∧ Below w.heap.size w w' := by
 have HR0 := am hr0
 have HC0 := am hc0
 clear hr0 hc0
 have HB := am (Below.refl w.heap.size w)
 have H : ((crc_More.f 0 l0).bind fun t134 => (some t134)) = some r := h
 clear h
 replace H := Option.bind_eq_some_iff.mp H
 obtain ⟨t134, A20, H⟩ := H
 replace H : (some t134) = some r := H
 have A2 := am A20
 clear A20
 obtain rfl := Option.some.inj H
 go_enter Tryz.func73, Tryz.ntmps73
 go_wp2_with (first | ((with_reducible refine gate_callee (f := 72) rfl ?_); refine goesL_ (some 4) rfl rfl Tryz.func72 (by kernel_rfl) rfl #[.int .u32 0, .slice A0 l0.length c0] rfl (by (try simp only [List.map_toArray, List.map_cons, List.map_nil]); first | done | rfl | (simp only [List.length_drop, List.length_take]; rfl)) ?_; (with_reducible refine (crc_More.calls 0 _ _ l0 t134 _ ?side1 ?side2 A2.out).mono ?_); (case side1 => repeat (first | exact HR0.out | (with_reducible refine Kd.C_alloc ?_ _) | (with_reducible refine Kd.C_drewN ?_ _) | (with_reducible refine Kd.C_drew ?_))); (case side2 => exact HC0.out); rintro e w3 ⟨rfl, hb⟩; refine ⟨_, rfl, ?_⟩; have n0_ := am (below_step (by repeat (first | (with_reducible first | exact HB.out | apply below_alloc | apply pw_below_drewN | apply below_drew1) | exact HB.out)) hb); clear HB; have HB := n0_; clear n0_; (try clear hb); (try clear hb2); (try clear hk); (try clear hi)))
 go_ret
 exact ⟨by first | rfl | (simp [errW_none, errW_some] <;> rfl) | (simp [*, errW_none, errW_some] <;> rfl), by repeat (first | (with_reducible first | exact HB.out | apply below_alloc | apply pw_below_drewN | apply below_drew1) | exact HB.out)⟩
end
section
attribute [local go_sem] max2_int min2_int max_two min_two max_three min_three max_four min_four
def frame_Put.f (k : Nat) (l0 : List Int) : Option (List Int × Int) := if (l0.length : Int) > 16777216 then (some (([] : List Int), 12)) else ((num_PutFix.f k ([] : List Int) (IntKind.u64.wrap ((l0.length : Int))) 4).bind fun t135 => ((crc_Sum.f t135).bind fun t138 => ((crc_More.f t138 l0).bind fun t139 => ((num_PutFix.f k t135 (IntKind.u64.wrap (t139)) 4).bind fun t140 => (if t140.length + l0.length < 140737488355328 then (some ((t140 ++ l0), 0)) else (none))))))
set_option maxHeartbeats 8000000 in
set_option maxRecDepth 100000 in
theorem frame_Put.calls (k : Nat) (A0 : Option Addr) (c0 : Nat) (l0 : List Int) (r1 : List Int) (r2 : Int) (w : World) (hr0 : Kd.C (Kd.int .u8) w A0 l0.length l0) (hc0 : l0.length ≤ c0) (h : frame_Put.f k l0 = some (r1, r2)) :
  Calls Tryz.prog 35 #[.slice A0 l0.length c0] w fun e w' => ∃ v0_ : Value, e = .returned (.tuple #[v0_, .int .i64 r2]) ∧ Kd.R (Kd.int .u8) 5 w' w.heap.size (fun _ => True) v0_ r1 ∧ Below w.heap.size w w' := by
 have HR0 := am hr0
 have HC0 := am hc0
 clear hr0 hc0
 have HB := am (Below.refl w.heap.size w)
 have H : (if (l0.length : Int) > 16777216 then (some (([] : List Int), 12)) else ((num_PutFix.f k ([] : List Int) (IntKind.u64.wrap ((l0.length : Int))) 4).bind fun t135 => ((crc_Sum.f t135).bind fun t138 => ((crc_More.f t138 l0).bind fun t139 => ((num_PutFix.f k t135 (IntKind.u64.wrap (t139)) 4).bind fun t140 => (if t140.length + l0.length < 140737488355328 then (some ((t140 ++ l0), 0)) else (none))))))) = some (r1, r2) := h
 clear h
 by_cases c2 : (l0.length : Int) > 16777216
 ·rw [if_pos c2] at H
  have c2b0 : decide (16777216 < (l0.length : Int)) = true := decide_eq_true c2
  have c2b1 : decide (16777216 < l0.length) = true := decide_eq_true (by omega)
  clear c2
  simp only [Option.some.injEq, Prod.mk.injEq] at H
  obtain ⟨rfl, rfl⟩ := H
  go_enter Tryz.func35, Tryz.ntmps35
  go_wp2
  go_ret2
  exact ⟨_, by first | rfl | (simp [errW_none, errW_some] <;> rfl) | (simp [*, errW_none, errW_some] <;> rfl), by first | exact Kd.R_nil _ _ _ _ _ | exact Kd.N_nil _ _ _ _ _ | exact Kd.V_nil _ _ _ _ _ | exact Kd.Q_nil _ _ _ _ _ | exact Kd.S_nil _ _ _ _ _, by repeat (first | (with_reducible first | exact HB.out | apply below_alloc | apply pw_below_drewN | apply below_drew1) | exact HB.out)⟩
 ·rw [if_neg c2] at H
  have c2b0 : decide (16777216 < (l0.length : Int)) = false := decide_eq_false c2
  have c2b1 : decide (16777216 < l0.length) = false := decide_eq_false (by omega)
  clear c2
  replace H := Option.bind_eq_some_iff.mp H
  obtain ⟨t135, A30, H⟩ := H
  replace H : ((crc_Sum.f t135).bind fun t138 => ((crc_More.f t138 l0).bind fun t139 => ((num_PutFix.f k t135 (IntKind.u64.wrap (t139)) 4).bind fun t140 => (if t140.length + l0.length < 140737488355328 then (some ((t140 ++ l0), 0)) else (none))))) = some (r1, r2) := H
  have A3 := am A30
  clear A30
  replace H := Option.bind_eq_some_iff.mp H
  obtain ⟨t138, A40, H⟩ := H
  replace H : ((crc_More.f t138 l0).bind fun t139 => ((num_PutFix.f k t135 (IntKind.u64.wrap (t139)) 4).bind fun t140 => (if t140.length + l0.length < 140737488355328 then (some ((t140 ++ l0), 0)) else (none)))) = some (r1, r2) := H
  have A4 := am A40
  clear A40
  replace H := Option.bind_eq_some_iff.mp H
  obtain ⟨t139, A50, H⟩ := H
  replace H : ((num_PutFix.f k t135 (IntKind.u64.wrap (t139)) 4).bind fun t140 => (if t140.length + l0.length < 140737488355328 then (some ((t140 ++ l0), 0)) else (none))) = some (r1, r2) := H
  have A5 := am A50
  clear A50
  replace H := Option.bind_eq_some_iff.mp H
  obtain ⟨t140, A60, H⟩ := H
  replace H : (if t140.length + l0.length < 140737488355328 then (some ((t140 ++ l0), 0)) else (none)) = some (r1, r2) := H
  have A6 := am A60
  clear A60
  by_cases c7 : t140.length + l0.length < 140737488355328
  ·rw [if_pos c7] at H
   have LMc7 := am c7
   clear c7
   obtain ⟨y143, hy143⟩ : ∃ y_ : List Int, y_ = (t140 ++ l0) := ⟨_, rfl⟩
   replace H : (some (y143, 0)) = some (r1, r2) := by first | (rw [hy143]; with_reducible exact H) | (have H2_ := (Option.bind_some _ _).symm.trans H; rw [hy143]; with_reducible exact H2_) | (have H2_ := (Option.bind_some _ _).symm.trans H; with_reducible exact H2_) | with_reducible exact H | (rw [hy143]; exact H) | exact H
   have Ny143 := am hy143
   clear hy143
   simp only [Option.some.injEq, Prod.mk.injEq] at H
   obtain ⟨rfl, rfl⟩ := H
   go_enter Tryz.func35, Tryz.ntmps35
   go_wp2_with (first | ((with_reducible refine gate_callee (f := 71) rfl ?_); refine goesL_ (some 11) rfl rfl Tryz.func71 (by kernel_rfl) rfl #[.slice none 0 0, .int .u64 (IntKind.u64.wrap ((l0.length : Int))), .int .i64 4] rfl (by (try simp only [List.map_toArray, List.map_cons, List.map_nil]); first | done | rfl | (simp only [List.length_drop, List.length_take]; rfl)) ?_; (refine (num_PutFix.calls k (fun k_ => some k_ = (.slice none 0 0 : Value).ownBlock) (.slice none 0 0) ([] : List Int) (IntKind.u64.wrap ((l0.length : Int))) 4 t135 w _ ?side1 ?side2 A3.out).mono ?_); (case side1 => repeat (first | (with_reducible first | exact HB.out | apply below_alloc | apply pw_below_drewN | apply below_drew1) | exact HB.out)); (case side2 => exact Kd.R_nil _ _ _ _ _); rintro e w8 ⟨v136, rfl, ho0, hb, hkp⟩; refine ⟨_, rfl, ?_⟩; have n0_ := am (Kd.R_mono (ok' := fun k_ => True) ho0 (fun k_ hk_ => trivial)); have n1_ := am (hb); clear HB; have HO137 := n0_; have HB := n1_; clear n0_ n1_; (try clear hb); (try clear hkp); (try clear ho0); obtain ⟨Ao9, co9, eo9⟩ := Kd.R_slice HO137.out; subst eo9) | ((with_reducible refine gate_callee (f := 73) rfl ?_); refine goesL_ (some 14) rfl rfl Tryz.func73 (by kernel_rfl) rfl #[.slice Ao9 t135.length co9] rfl (by (try simp only [List.map_toArray, List.map_cons, List.map_nil]); first | done | rfl | (simp only [List.length_drop, List.length_take]; rfl)) ?_; (with_reducible refine (crc_Sum.calls _ _ t135 t138 _ ?side1 ?side2 A4.out).mono ?_); (case side1 => repeat (first | exact (Kd.R_reads' HO137.out).2.2 | (with_reducible refine Kd.C_alloc ?_ _) | (with_reducible refine Kd.C_drewN ?_ _) | (with_reducible refine Kd.C_drew ?_))); (case side2 => exact (Kd.R_reads' HO137.out).2.1); rintro e w10 ⟨rfl, hb⟩; refine ⟨_, rfl, ?_⟩; have n0_ := am (Kd.R_below (by (with_reducible repeat (first | apply Kd.R_alloc | apply Kd.R_drewN | apply Kd.R_drew)); exact HO137.out) hb); have n1_ := am (below_step (by repeat (first | (with_reducible first | exact HB.out | apply below_alloc | apply pw_below_drewN | apply below_drew1) | exact HB.out)) hb); clear HO137; clear HB; have HO137 := n0_; have HB := n1_; clear n0_ n1_; (try clear hb); (try clear hb2); (try clear hk); (try clear hi)) | ((with_reducible refine gate_callee (f := 72) rfl ?_); refine goesL_ (some 16) rfl rfl Tryz.func72 (by kernel_rfl) rfl #[.int .u32 t138, .slice A0 l0.length c0] rfl (by (try simp only [List.map_toArray, List.map_cons, List.map_nil]); first | done | rfl | (simp only [List.length_drop, List.length_take]; rfl)) ?_; (with_reducible refine (crc_More.calls t138 _ _ l0 t139 _ ?side1 ?side2 A5.out).mono ?_); (case side1 => repeat (first | exact (Kd.C_below HR0.out HB.out) | (with_reducible refine Kd.C_alloc ?_ _) | (with_reducible refine Kd.C_drewN ?_ _) | (with_reducible refine Kd.C_drew ?_))); (case side2 => exact HC0.out); rintro e w11 ⟨rfl, hb⟩; refine ⟨_, rfl, ?_⟩; have n0_ := am (Kd.R_below (by (with_reducible repeat (first | apply Kd.R_alloc | apply Kd.R_drewN | apply Kd.R_drew)); exact HO137.out) hb); have n1_ := am (below_step (by repeat (first | (with_reducible first | exact HB.out | apply below_alloc | apply pw_below_drewN | apply below_drew1) | exact HB.out)) hb); clear HO137; clear HB; have HO137 := n0_; have HB := n1_; clear n0_ n1_; (try clear hb); (try clear hb2); (try clear hk); (try clear hi)) | ((with_reducible refine gate_callee (f := 71) rfl ?_); refine goesL_ (some 18) rfl rfl Tryz.func71 (by kernel_rfl) rfl #[.slice Ao9 t135.length co9, .int .u64 (IntKind.u64.wrap (t139)), .int .i64 4] rfl (by (try simp only [List.map_toArray, List.map_cons, List.map_nil]); first | done | rfl | (simp only [List.length_drop, List.length_take]; rfl)) ?_; (with_reducible refine (num_PutFix.calls k (fun k_ => some k_ = (.slice Ao9 t135.length co9 : Value).ownBlock) (.slice Ao9 t135.length co9) t135 (IntKind.u64.wrap (t139)) 4 t140 w _ ?side1 ?side2 A6.out).mono ?_); (case side1 => repeat (first | (with_reducible first | exact HB.out | apply below_alloc | apply pw_below_drewN | apply below_drew1) | exact HB.out)); (case side2 => exact Kd.R_tight rfl HO137.out); rintro e w12 ⟨v141, rfl, ho0, hb, hkp⟩; refine ⟨_, rfl, ?_⟩; have n0_ := am (Kd.R_mono (ok' := fun k_ => True) ho0 (fun k_ hk_ => trivial)); have n1_ := am (hb); clear HB; clear HO137; have HO142 := n0_; have HB := n1_; clear n0_ n1_; (try clear hb); (try clear hkp); (try clear ho0)) | ((with_reducible refine gate_builtin (b := .append) (xs := #[.tmp 19, .tmp 20]) rfl ?_); at_builtin; refine Kd.R_append_rows (Kd.int .u8) (w0 := w) w.heap.size rfl (.tmp 19) (.tmp 20) 30 5 (.int .u8 0) 1 rfl Tryz.underlying30 info5 rfl (by decide) (by omega) v141 t140 l0 _ _ _ (fun _ => True) (fun _ => False) rfl rfl ?aO ?aR (fun _ _ h => h) (fun _ h => h.elim) ?aF ?aB ?aS ?aL ?_; (case aR => repeat (first | exact (Kd.C_below HR0.out HB.out) | (with_reducible refine Kd.C_alloc ?_ _) | (with_reducible refine Kd.C_drewN ?_ _) | (with_reducible refine Kd.C_drew ?_))); (case aB => exact (by repeat (first | (with_reducible first | exact HB.out | apply below_alloc | apply pw_below_drewN | apply below_drew1) | exact HB.out))); (case aF => exact (fun _ _ => trivial)); (case aO => exact (by (with_reducible repeat (first | apply Kd.R_alloc | apply Kd.R_drewN | apply Kd.R_drew)); exact HO142.out)); (case aS => exact (below_size (by repeat (first | (with_reducible first | exact HB.out | apply below_alloc | apply pw_below_drewN | apply below_drew1) | exact HB.out)))); (case aL => have := LMc7.out; omega); intro v144 w13 ho hb hg hat; rw [← Ny143.out] at ho; have n0_ := am (hb); have n1_ := am (ho); clear HB; clear HO142; have HB := n0_; have HO145 := n1_; clear n0_ n1_; clear ho hb hg hat))
   go_ret2
   exact ⟨_, by first | rfl | (simp [errW_none, errW_some] <;> rfl) | (simp [*, errW_none, errW_some] <;> rfl), by (with_reducible repeat (first | apply Kd.R_alloc | apply Kd.R_drewN | apply Kd.R_drew)); exact HO145.out, by repeat (first | (with_reducible first | exact HB.out | apply below_alloc | apply pw_below_drewN | apply below_drew1) | exact HB.out)⟩
  ·rw [if_neg c7] at H
   exact absurd H (by simp)
def RdErr (w0 W : World) (ev : Value) (ec ep : Int) : Prop :=
 (ec = 0 ∧ ep = 0 ∧ ev = .nilIface) ∨ (ec ≠ 0 ∧ ∃ h, w0.heap.size ≤ h ∧ ev = .iface 179 (.pointer (some ⟨h, 0, none⟩)) ∧ W.heap[h]? = some (.cells #[.int .i64 ep, .iface 31 (.int .i64 ec)] 184 (0, 0)))
def RD (w0 W : World) (g : Nat) (f0 : List Int) (f1 f2 f3 : Int) : Prop :=
 ∃ A c ev, W.heap[g]? = some (.cells #[.slice A f0.length c, .int .i64 f1, ev] 178 (0, 0)) ∧ w0.heap.size ≤ g ∧ Kd.C (Kd.int .u8) w0 A f0.length f0 ∧ f0.length ≤ c ∧ RdErr w0 W ev f2 f3
theorem RdErr.move {w0 W W1 : World} {ev : Value} {ec ep : Int} (h : RdErr w0 W ev ec ep) (hw : ∀ k, w0.heap.size ≤ k → ∀ cs, W.heap[k]? = some (.cells cs 184 (0, 0)) → W1.heap[k]? = W.heap[k]?) : RdErr w0 W1 ev ec ep := by
 rcases h with h | ⟨h1, k, h2, h3, h4⟩
 ·exact .inl h
 ·exact .inr ⟨h1, k, h2, h3, (hw k h2 _ h4).trans h4⟩
theorem RD.below {w0 W W1 : World} {g : Nat} {f0 : List Int} {f1 f2 f3 : Int} (h : RD w0 W g f0 f1 f2 f3) (hb : Below W.heap.size W W1) : RD w0 W1 g f0 f1 f2 f3 := by
 obtain ⟨A, c, ev, h1, h2, h3, h4, h5⟩ := h
 exact ⟨A, c, ev, (hb.block g (blk_lt h1)).trans h1, h2, h3, h4, h5.move fun k _ cs hk => hb.block k (blk_lt hk)⟩
theorem RD.drewN {w0 W : World} {g : Nat} {f0 : List Int} {f1 f2 f3 : Int} (h : RD w0 W g f0 f1 f2 f3) (n : Nat) : RD w0 (W.drewN n) g f0 f1 f2 f3 := h
theorem RD.drew {w0 W : World} {g : Nat} {f0 : List Int} {f1 f2 f3 : Int} (h : RD w0 W g f0 f1 f2 f3) : RD w0 W.drew g f0 f1 f2 f3 := h
theorem RD.lt {w0 W : World} {g : Nat} {f0 : List Int} {f1 f2 f3 : Int} (h : RD w0 W g f0 f1 f2 f3) : g < W.heap.size := by
 obtain ⟨A, c, ev, h1, _⟩ := h
 exact blk_lt h1
theorem RD.set_at {w0 W : World} {g : Nat} {f0 : List Int} {f1 f2 f3 : Int} (h : RD w0 W g f0 f1 f2 f3) (x : Int) : RD w0 (W.setCell ⟨g, 1, none⟩ (.int .i64 x)) g f0 x f2 f3 := by
 obtain ⟨A, c, ev, h1, h2, h3, h4, h5⟩ := h
 refine ⟨A, c, ev, by simpa using blk_set h1 1 (.int .i64 x), h2, h3, h4, h5.move fun k _ cs hk => ?_⟩
 refine Below.heap_setCell W _ _ k (fun e => ?_)
 subst e
 rw [h1] at hk
 injection hk with hk
 injection hk with _ ht
 exact absurd ht (by decide)
theorem KeepBut.below_ {w W W1 : World} {g : Nat} (h : KeepBut w W g none) (hb : Below W.heap.size W W1) : KeepBut w W1 g none :=
 ⟨Nat.le_trans h.1 hb.size, fun i hi h1 h2 => (hb.block i (Nat.lt_of_lt_of_le hi h.1)).trans (h.2 i hi h1 h2)⟩
section
open Go.Extern.Stop Go.Stop Go.Extern
theorem is_typeOf (v : Value) (w : World) : (ReflectliteType.typeOf #[.iface 31 v]).run Tryz.prog w = .ok (.iface 194 (.agg #[.pointer (some ⟨4, 31, none⟩)])) w := by kernel_rfl
set_option maxRecDepth 100000 in
theorem is_comparable (w : World) : ((ReflectliteType.method fun t => do Rtype.noPackHeld "Comparable" t; (fun a => Value.bool a.comparable) <$> typeInfo t) #[.agg #[.pointer (some ⟨4, 31, none⟩)]]).run Tryz.prog w = .ok (.bool true) w := by kernel_rfl
theorem is_methodComparable (v : Value) (w : World) : (Go.method 366 194 v "Comparable").run Tryz.prog w = .ok (186, v) w := by kernel_rfl
theorem is_noIsE (v : Value) (xT : TypeId) (w : World) : (Instr.typeAssert (.iface 31 v) xT 196 true).run Tryz.prog w = .ok (.tuple #[.nilIface, .bool false]) w := run_typeAssert_lacksB Tryz.underlying196 (by kernel_rfl) (by kernel_rfl) v xT w
theorem is_noUnwrapE (v : Value) (xT : TypeId) (w : World) : (Instr.typeAssert (.iface 31 v) xT 199 true).run Tryz.prog w = .ok (.tuple #[.nilIface, .bool false]) w := run_typeAssert_lacksB Tryz.underlying199 (by kernel_rfl) (by kernel_rfl) v xT w
theorem is_noUnwrapsE (v : Value) (xT : TypeId) (w : World) : (Instr.typeAssert (.iface 31 v) xT 201 true).run Tryz.prog w = .ok (.tuple #[.nilIface, .bool false]) w := run_typeAssert_lacksB Tryz.underlying201 (by kernel_rfl) (by kernel_rfl) v xT w
theorem is_noIsB (v : Value) (xT : TypeId) (w : World) : (Instr.typeAssert (.iface 176 v) xT 196 true).run Tryz.prog w = .ok (.tuple #[.nilIface, .bool false]) w := run_typeAssert_lacksB Tryz.underlying196 (by kernel_rfl) (by kernel_rfl) v xT w
theorem is_unwrapB (v : Value) (xT : TypeId) (w : World) : (Instr.typeAssert (.iface 176 v) xT 199 true).run Tryz.prog w = .ok (.tuple #[.iface 176 v, .bool true]) w := run_typeAssert_hasB Tryz.underlying199 (by kernel_rfl) v xT w
theorem is_methodUnwrapB (v : Value) (w : World) : (Go.method 366 176 v "Unwrap").run Tryz.prog w = .ok (181, v) w := by kernel_rfl
theorem is_eqE (a b : Int) (w : World) : (binOp .eql 100 (.iface 31 (.int .i64 a)) (.iface 31 (.int .i64 b))).run Tryz.prog w = .ok (.bool (a == b)) w := by
 exact Lib.run_eql_iface_int (P := Tryz.prog) w a b Tryz.underlying100 (by kernel_rfl) Tryz.underlying31
set_option maxHeartbeats 4000000 in
theorem is_nil (b : Int) (w : World) :
  Calls Tryz.prog 55 #[.nilIface, .iface 31 (.int .i64 b)] w fun e w' => e = .returned (.bool false) ∧ w = w' := by
 have hn := run_eql_iface_nil_left (P := Tryz.prog) w 31 (.int .i64 b) Tryz.underlying100
 go_enter Tryz.func55, Tryz.ntmps55
 go_wp2
 go_ret
 exact ⟨rfl, rfl⟩
set_option maxHeartbeats 4000000 in
theorem is_broken (a b : Int) (w : World) :
  Calls Tryz.prog 55 #[.iface 176 (.agg #[.iface 31 (.int .i64 a)]), .iface 31 (.int .i64 b)] w fun e w' => e = .returned (.bool (a == b)) ∧ Below w.heap.size w w' := by
 have hto := @run_callFunc_extern Tryz.prog 97 _ ReflectliteType.typeOf Tryz.func97 (by kernel_rfl) (by kernel_rfl) (by kernel_rfl) (by kernel_rfl)
 have hcm := @run_callFunc_extern Tryz.prog 186 _ (ReflectliteType.method fun t => do Rtype.noPackHeld "Comparable" t; pure (.bool (← typeInfo t).comparable)) Tryz.func186 (by kernel_rfl) (by kernel_rfl) (by kernel_rfl) (by kernel_rfl)
 have tT := is_typeOf
 have cT := is_comparable
 have mR := is_methodComparable
 have nE := is_noIsE
 have uE := is_noUnwrapE
 have vE := is_noUnwrapsE
 have nB := is_noIsB
 have uB := is_unwrapB
 have mU := is_methodUnwrapB
 have hq := is_eqE a b
 have hty := fun (v : Value) (w : World) => run_eql_iface_types (P := Tryz.prog) 176 31 v (.int .i64 b) Tryz.underlying100 (by decide) w
 obtain ⟨c, hc⟩ : ∃ c, (a == b) = c := ⟨_, rfl⟩
 rw [hc] at hq ⊢
 clear hc
 cases c
 all_goals
  go_enter Tryz.func55, Tryz.ntmps55
  go_wp2
  refine wp_loop_rounds 2 ?_
  rw [rounds_succ]
  go_wp2
  rw [rounds_succ]
  go_wp2
  go_ret
  exact ⟨rfl, below_alloc (Below.refl _ _) _⟩
end
set_option maxHeartbeats 800000 in
set_option maxRecDepth 100000 in
theorem rd_new (A0 : Option Addr) (c0 : Nat) (l0 : List Int) (w : World) (hr0 : Kd.C (Kd.int .u8) w A0 l0.length l0) (hc0 : l0.length ≤ c0) (hl : l0.length < 140737488355328) :
  Calls Tryz.prog 87 #[.slice A0 l0.length c0] w fun e w' => ∃ g w1, e = .returned (.pointer (some ⟨g, 0, none⟩)) ∧ RD w1 w' g l0 0 0 0 ∧ Below w.heap.size w w1 ∧ Below w1.heap.size w1 w' := by
 have HR := am hr0
 have HC := am hc0
 have HL := am hl
 clear hr0 hc0 hl
 go_enter Tryz.func87, Tryz.ntmps87
 go_wp2_with fail
 refine (bytes_Clone.calls A0 c0 l0 l0 _ HR.out HC.out (by unfold bytes_Clone.f; rw [if_pos HL.out])).mono ?_
 rintro e w1 ⟨v, rfl, hr, hb⟩
 obtain ⟨A, c, rfl⟩ := Kd.R_slice hr
 have H1 := am (Kd.R_reads' hr).2
 have H2 := am hb
 clear hr hb
 go_wp2
 go_ret
 exact ⟨_, w1, rfl, ⟨A, c, _, heap_alloc_new w1 _, Nat.le_refl _, H1.out.2, H1.out.1, .inl ⟨rfl, rfl, rfl⟩⟩, H2.out, below_alloc (Below.refl _ _) _⟩
end
end Go.Proofs.YtjmhiklmlgbifaaGreatDoor.PMan

-- Printed for this claim by a program of this session's own (it runs the kit's print another way): Lean checks it.
import Derived.Test.YtibdikihgdkfnaaGreatDoorPStox0
namespace Go.Proofs.YtibdikihgdkfnaaGreatDoor.PSto
open Go.RowKit Go.Proofs.YtibdikihgdkfnaaGreatDoorW.PrintWords Go.Proofs.YtibdikihgdkfnaaGreatDoorW.PrintLast Go.Proofs.YtibdikihgdkfnaaGreatDoorW.PrintMore
attribute [local go_sem] max2_int min2_int max_two min_two max_three min_three max_four min_four   -- for this text's walks alone
set_option linter.unusedVariables false
set_option linter.unusedSimpArgs false

/-! ### crc_More: function 49 -/
theorem crc_info : (Tryz.prog.info? 171).map (fun i => (i.zero, i.size)) = some (some (.agg (Array.replicate 256 (.int .u32 0))), 256) := by kernel_rfl

/-- One bit of the remainder. -/
def crc_bit (v : Int) : Int := if Go.bits .and .u32 v 1 = 1 then Go.bits .xor .u32 (v / 2) 3988292384 else v / 2
def crc_bits : Nat → Int → Int
  | 0, v => v
  | n + 1, v => crc_bit (crc_bits n v)
def crc_cells (k : Nat) : Array Value := Array.ofFn (n := 256) (fun j => .int .u32 (if j.val < k then crc_bits 8 j.val else 0))
theorem crc_cells_zero : crc_cells 0 = Array.replicate 256 (.int .u32 0) := by
  apply Array.ext
  · simp [crc_cells]
  · intro i h1 h2
    simp [crc_cells]
theorem crc_cells_succ (k : Nat) : (crc_cells k).setIfInBounds k (.int .u32 (crc_bits 8 k)) = crc_cells (k + 1) := by
  apply Array.ext
  · simp [crc_cells]
  · intro i h1 h2
    have h3 : i < (crc_cells k).size := by simpa using h1
    rw [Array.getElem_setIfInBounds h3]
    simp only [crc_cells, Array.getElem_ofFn]
    by_cases e : k = i
    · subst e
      simp
    · rw [if_neg e]
      by_cases l : i < k
      · rw [if_pos l, if_pos (by omega)]
      · rw [if_neg l, if_neg (by omega)]

theorem below_setRow {B : Nat} {a w : World} (h : Below B a w) {g : Nat} {cs : Array Value} (hg : B ≤ g) : Below B a (w.setRow g cs) :=
  ⟨h.os, h.tape, h.output, by rw [size_setRow]; exact h.size, fun i hi => (setRow_other w g i cs (by omega)).trans (h.block i hi)⟩
theorem crc_cells_size (k : Nat) : (crc_cells k).size = 256 := by simp [crc_cells]
theorem crc_cells_one (k : Nat) : (crc_cells k).all (·.oneCell') = true := by
  rw [Array.all_eq_true]
  intro i h
  simp [crc_cells, Value.oneCell']
set_option maxHeartbeats 400000 in
set_option maxRecDepth 100000 in
theorem crc_reckon_calls (w : World) :
    Calls Tryz.prog 151 #[] w fun e w' => e = .returned (.agg (crc_cells 256)) ∧ Below w.heap.size w w' := by
  have hz := (zero_of_info crc_info).1
  go_enter Tryz.func151, Tryz.ntmps151
  go_wp2
  go_loopw [4] (fun v4 w' => ∃ (k : Nat) (c : Array Value), k ≤ 256 ∧ v4 = .int .i64 k ∧ w' = (w.alloc (Obj.cells (Array.replicate 256 (Value.int IntKind.u32 0)) 171)).alloc (Obj.cells c 171) ∧ Aside0 (c = crc_cells k)) (fun i _ => 256 - (intOf i).toNat)
  case atStart => exact ⟨0, _, by omega, rfl, rfl, ⟨by rw [crc_cells_zero]⟩⟩
  case round =>
    obtain ⟨k, c, hk, rfl, rfl, HC⟩ := hrel
    by_cases hlt : k < 256
    · obtain ⟨cv, hcv⟩ : ∃ cv, c[k]? = some cv := ⟨_, Array.getElem?_eq_getElem (by rw [HC.out, crc_cells_size]; exact hlt)⟩
      go_wp2
      go_loop [3, 9] (fun v n => ∃ (j : Nat) (x : Int), j ≤ 8 ∧ n = .int .i64 j ∧ v = .int .u32 x ∧ Aside0 (x = crc_bits j k)) (fun _ i => 8 - (intOf i).toNat)
      case atStart => exact ⟨0, k, by omega, rfl, by go_num, ⟨rfl⟩⟩
      case round =>
        obtain ⟨j, v, hj, rfl, rfl, HV⟩ := hrel
        by_cases hj8 : j < 8
        · have hs : crc_bits (j + 1) k = crc_bit v := by rw [HV.out]; rfl
          unfold crc_bit at hs
          by_cases hb : Go.bits .and .u32 v 1 = 1
          · rw [if_pos hb] at hs
            have HS := Aside0.mk hs
            have hb1 : (Go.bits .and .u32 v 1 == 1) = true := by simpa using hb
            clear hs hb
            go_wp2
            go_round
            case rel => exact ⟨j + 1, _, by omega, by go_num, rfl, ⟨HS.out.symm⟩⟩
            case measure => simp [intOf]; omega
          · rw [if_neg hb] at hs
            have HS := Aside0.mk hs
            have hb1 : (Go.bits .and .u32 v 1 == 1) = false := by simpa using hb
            clear hs hb
            go_wp2
            go_round
            case rel => exact ⟨j + 1, _, by omega, by go_num, rfl, ⟨HS.out.symm⟩⟩
            case measure => simp [intOf]; omega
        · go_wp2
          go_roundw
          case rel =>
            obtain rfl : j = 8 := by omega
            obtain rfl := HC.out
            refine ⟨k + 1, _, by omega, by go_num, ?_, ⟨crc_cells_succ k⟩⟩
            rw [← HV.out]
          case measure => simp [intOf]; omega
    · obtain rfl : k = 256 := by omega
      have hcs : c.size = 256 := by rw [HC.out]; exact crc_cells_size 256
      have hone : c.all (·.oneCell') = true := by rw [HC.out]; exact crc_cells_one 256
      have hcs1 : c.all (·.oneCell') = true := hone
      have hin := (zero_of_info crc_info).2
      have h0 := heap_alloc2_old w (Obj.cells (Array.replicate 256 (Value.int IntKind.u32 0)) 171) (Obj.cells c 171)
      have h1 := heap_alloc2_new w (Obj.cells (Array.replicate 256 (Value.int IntKind.u32 0)) 171) (Obj.cells c 171)
      have HL := Aside0.mk h1
      have HS := Aside0.mk h0
      have HI := Aside0.mk hin
      have HCS := Aside0.mk hcs
      have HC1 := Aside0.mk hcs1
      clear h0 h1 hin hcs hcs1 hone
      go_wp2_with (first | (refine wpList_load_row rfl 171 _ rfl (w.heap.size + 1) rfl 171 c (0, 0) _ HL.out Tryz.underlying171 rfl (by rw [HI.out, HCS.out]) ?_) | (refine wpList_store_row rfl 171 _ _ rfl w.heap.size c rfl rfl 171 _ HS.out (by rw [HI.out, HCS.out]) (by rw [HCS.out, Array.size_replicate]) HC1.out ?_))
      refine bodyPost_ret (v := .agg c) ?_ rfl ⟨by rw [HC.out], ?_⟩
      · refine results_cell_row rfl _ _ w.heap.size 171 c (0, 0) _ rfl ?_ Tryz.underlying171 rfl (by rw [HI.out, HCS.out])
        exact setRow_heap _ _ _ _ _ _ HS.out
      · exact below_setRow (((Below.refl _ _).alloc (Nat.le_refl _) _).alloc (by simp) _) (Nat.le_refl _)

set_option maxHeartbeats 400000 in
set_option maxRecDepth 100000 in
theorem crc_table_calls (w : World) :
    Calls Tryz.prog 103 #[] w fun e w' => e = .returned (.agg (crc_cells 256)) ∧ Below w.heap.size w w' := by
  have hz := (zero_of_info crc_info).1
  have hcs : (crc_cells 256).size = 256 := crc_cells_size 256
  have hone : (crc_cells 256).all (·.oneCell') = true := crc_cells_one 256
  obtain ⟨c, hc⟩ : ∃ c, c = crc_cells 256 := ⟨_, rfl⟩
  rw [← hc] at hcs hone
  have HC := Aside0.mk hc
  have HCS := Aside0.mk hcs
  have HC1 := Aside0.mk hone
  have HI := Aside0.mk (zero_of_info crc_info).2
  clear hc hcs hone
  go_enter Tryz.func103, Tryz.ntmps103
  go_wp2_with fail
  refine (crc_reckon_calls _).mono ?_
  rintro e w1 ⟨he, hb⟩
  rw [← HC.out] at he
  subst he
  have hz1 : w.heap.size < w1.heap.size := by have := hb.size; simp at this; omega
  have hg := Aside0.mk ((hb.block w.heap.size (by simp)).trans (heap_alloc_new w (Obj.cells (Array.replicate 256 (Value.int IntKind.u32 0)) 171)))
  have hb' : Below w.heap.size w w1 := ((Below.refl w.heap.size w).alloc (Nat.le_refl _) _).trans (hb.mono (by simp))
  have HB := Aside0.mk hb'
  clear hb hb'
  go_wp2_with (refine wpList_store_row rfl 171 _ _ rfl w.heap.size c rfl rfl 171 _ hg.out (by rw [HI.out, HCS.out]) (by rw [HCS.out, Array.size_replicate]) HC1.out ?_)
  refine bodyPost_ret (v := .agg c) ?_ rfl ⟨by rw [HC.out], ?_⟩
  · exact results_cell_row rfl _ _ w.heap.size 171 c (0, 0) _ rfl (setRow_heap _ _ _ _ _ _ hg.out) Tryz.underlying171 rfl (by rw [HI.out, HCS.out])
  · exact below_setRow HB.out (Nat.le_refl _)

/-- An element of an array by value. -/
theorem run_index_agg {P : Program} {t e : TypeId} {n : Nat} {cs : Array Value} {k : IntKind} {i : Int} {v : Value} (h : P.underlying t = some (.array n e)) (h0 : 0 ≤ i) (h1 : i < n) (hv : cs[i.toNat]? = some v) (hs : ∀ w, (sizeOf e).run P w = .ok 1 w) (ha : ∀ w, (isAgg e).run P w = .ok false w) (w : World) :
    (Instr.index t (.agg cs) (.int k i)).run P w = .ok v w := by
  simp [Instr.index, run_underlying h, asIntOf, h0, h1, hv, hs, ha, go_sem]
def crc_step (v c : Int) : Int := Go.bits .xor .u32 (v / 256) (crc_bits 8 (Go.bits .xor .u8 (v % 256) c))
def crc_More.f (a0 : Int) (l1 : List Int) : Option Int := some (Go.bits .xor .u32 IntKind.u32.max (l1.foldl crc_step (Go.bits .xor .u32 IntKind.u32.max a0)))
theorem crc_byte (a b : Int) : 0 ≤ Go.bits .xor .u8 a b ∧ Go.bits .xor .u8 a b < 256 := by
  unfold Go.bits
  simp only [IntKind.wrap_u8]
  omega
theorem crc_at (a b : Int) : (crc_cells 256)[(Go.bits .xor .u8 a b).toNat]? = some (.int .u32 (crc_bits 8 (Go.bits .xor .u8 a b))) := by
  have h := crc_byte a b
  generalize Go.bits .xor .u8 a b = x at *
  have hx : x.toNat < 256 := by omega
  have hi : ((x.toNat : Nat) : Int) = x := by omega
  rw [Array.getElem?_eq_getElem (by rw [crc_cells_size]; exact hx)]
  simp only [crc_cells, Array.getElem_ofFn]
  rw [if_pos hx, hi]
set_option maxHeartbeats 400000 in
set_option maxRecDepth 100000 in
theorem crc_More.calls (a0 : Int) (A1 : Option Addr) (c1 : Nat) (l1 : List Int) (r : Int) (w : World) (hr1 : Kd.C (Kd.int .u8) w A1 l1.length l1) (hc1 : l1.length ≤ c1) (h : crc_More.f a0 l1 = some r) :
    Calls Tryz.prog 49 #[.int .u32 a0, .slice A1 l1.length c1] w fun e w' => e = .returned (.int .u32 r) ∧ Below w.heap.size w w' := by
  have H := Aside0.mk (Option.some.inj h)
  have HR := Aside0.mk hr1
  have HM := Aside0.mk (Kd.C_max hr1)
  have HC1 := Aside0.mk hc1
  obtain ⟨c, hc⟩ : ∃ c, c = crc_cells 256 := ⟨_, rfl⟩
  have HC := Aside0.mk hc
  clear hr1 hc1 hc h
  go_enter Tryz.func49, Tryz.ntmps49
  go_wp2
  go_loopw [5, 12] (fun v5 i w' => ∃ (k : Nat) (x : Int), k ≤ l1.length ∧ i = .int .i64 k ∧ v5 = .int .u32 x ∧ Aside0 (x = (l1.take k).foldl crc_step (Go.bits .xor .u32 IntKind.u32.max a0)) ∧ Aside0 (Below w.heap.size w w')) (fun _ i _ => l1.length - (intOf i).toNat)
  case atStart => exact ⟨0, _, Nat.zero_le _, rfl, rfl, ⟨rfl⟩, ⟨Below.refl _ _⟩⟩
  case round =>
    obtain ⟨k, x, hk, rfl, rfl, HX, HB⟩ := hrel
    have hm : l1.length ≤ 9223372036854775807 := HM.out
    by_cases hlt : k < l1.length
    · have hlt' : (k : Int) < (l1.length : Int) := by omega
      obtain ⟨ad, e1, hx1⟩ := Kd.at_int (Kd.C_below HR.out HB.out) (k : Int) (by omega) hlt'
      cases e1
      rw [show ((k : Int)).toNat = k from by omega] at hx1
      have hix := fun (W : World) => run_index_agg (P := Tryz.prog) (k := .u8) (i := Go.bits .xor .u8 (x % 256) (rd l1 k)) Tryz.underlying171 (crc_byte _ _).1 (crc_byte _ _).2 (crc_at (x % 256) (rd l1 k)) (fun _ => by kernel_rfl) (fun _ => by kernel_rfl) W
      rw [← HC.out] at hix
      obtain ⟨y, hy⟩ : ∃ y, y = crc_bits 8 (Go.bits .xor .u8 (x % 256) (rd l1 k)) := ⟨_, rfl⟩
      rw [← hy] at hix
      have HS := Aside0.mk (show crc_step x (rd l1 k) = Go.bits .xor .u32 (x / 256) y by rw [hy]; rfl)
      clear hy
      go_wp2_with (go_at_call 103; refine (crc_table_calls _).mono ?_; rintro e w1 ⟨he, hb1⟩; rw [← HC.out] at he; subst he; have HB1 := Aside0.mk (below_then HB.out HB.out.size hb1); clear hb1)
      go_roundw
      case rel =>
        refine ⟨k + 1, _, by omega, by go_num, rfl, ⟨?_⟩, HB1⟩
        rw [List.take_succ_eq_append_getElem hlt, List.foldl_append, ← HX.out]
        show _ = crc_step x l1[k]
        have hrd : rd l1 k = l1[k] := by simp [rd, hlt]
        rw [← hrd]
        exact HS.out.symm
      case measure => simp [intOf]; omega
    · obtain rfl : k = l1.length := by omega
      go_wp2
      go_ret
      rw [← H.out, HX.out, List.take_length]
      exact ⟨rfl, HB.out⟩

/-! ### crc_Sum: function 50 -/
def crc_Sum.f (l0 : List Int) : Option (Int) := (crc_More.f 0 l0).bind fun t305 => (some t305)
set_option maxHeartbeats 8000000 in
set_option maxRecDepth 100000 in
theorem crc_Sum.calls (A0 : Option Addr) (c0 : Nat) (l0 : List Int) (r : Int) (w : World) (hr0 : Kd.C (Kd.int .u8) w A0 l0.length l0) (hc0 : l0.length ≤ c0) (h : crc_Sum.f l0 = some r) :
    Calls Tryz.prog 50 #[.slice A0 l0.length c0] w fun e w' => e = .returned (.int .u32 r) ∧ Below w.heap.size w w' := by
  have HR0 := Aside0.mk hr0
  have HC0 := Aside0.mk hc0
  clear hr0 hc0
  have HB := Aside0.mk (Below.refl w.heap.size w)
  have H : ((crc_More.f 0 l0).bind fun t305 => (some t305)) = some r := h
  clear h
  replace H := Option.bind_eq_some_iff.mp H
  obtain ⟨t305, A20, H⟩ := H
  replace H : (some t305) = some r := H
  have A2 := Aside0.mk A20
  clear A20
  obtain rfl := Option.some.inj H
  go_enter Tryz.func50, Tryz.ntmps50
  go_wp2_with (first | ((with_reducible refine gate_callee (f := 49) rfl ?_); refine goesL_ (some 4) rfl rfl Tryz.func49 (by kernel_rfl) rfl #[.int .u32 0, .slice A0 l0.length c0] rfl (by (try simp only [List.map_toArray, List.map_cons, List.map_nil]); first | done | rfl | (simp only [List.length_drop, List.length_take]; rfl)) ?_; (with_reducible refine (crc_More.calls 0 _ _ l0 t305 _ ?side1 ?side2 A2.out).mono ?_); (case side1 => repeat (first | exact HR0.out | (with_reducible refine Kd.C_alloc ?_ _) | (with_reducible refine Kd.C_drewN ?_ _) | (with_reducible refine Kd.C_drew ?_))); (case side2 => exact HC0.out); rintro e w3 ⟨rfl, hb⟩; refine ⟨_, rfl, ?_⟩; have n0_ := Aside0.mk (below_step (by repeat (first | (with_reducible first | exact HB.out | apply below_alloc | apply pw_below_drewN | apply below_drew1) | exact HB.out)) hb); clear HB; have HB := n0_; clear n0_; (try clear hb); (try clear hb2); (try clear hk); (try clear hi)))
  go_ret
  exact ⟨by first | rfl | (simp [errW_none, errW_some] <;> rfl) | (simp [*, errW_none, errW_some] <;> rfl), by repeat (first | (with_reducible first | exact HB.out | apply below_alloc | apply pw_below_drewN | apply below_drew1) | exact HB.out)⟩

end Go.Proofs.YtibdikihgdkfnaaGreatDoor.PSto

/- Texts of this proof, put into one, without what it does not use: ManB, MpG, MpH. -/
import Derived.Test.YtjmhiklmlgbifaaGreatDoorPB7
import Derived.Outline
import Derived.Test.YtjmhiklmlgbifaaGreatDoorPB3
section
namespace Go.Proofs.YtjmhiklmlgbifaaGreatDoor.PMan
open Go.RowKit Go.Proofs.YtjmhiklmlgbifaaGreatDoorW.PrintWords Go.Proofs.YtjmhiklmlgbifaaGreatDoorW.PrintLast Go.Proofs.YtjmhiklmlgbifaaGreatDoorW.PrintMore
attribute [local go_sem] max2_int min2_int max_two min_two max_three min_three max_four min_four   -- for this text's walks alone
set_option linter.unusedVariables false
set_option linter.unusedSimpArgs false
theorem exec_load {P : Program} {oi : Oper} {f : Operand → Value} {W : World} (ty : TypeId) (x : Operand) (ho : oi.op = .load ty x) (g : Nat) (hx : f x = .pointer (some ⟨g, 0, none⟩)) (t : TypeId) (cs : Array Value) (fr : Nat × Nat) (d : TypeDesc) (hg : W.heap[g]? = some (.cells cs t fr))
    (hu : P.underlying ty = some d) (hd : (match d with | .struct _ | .array _ _ => true | _ => false) = true) (hi : (P.info? ty).map (·.size) = some cs.size) : (execOp f oi).run P W = .ok (.value (.agg cs)) W := by
  unfold execOp
  simp only [ho, hx, Instr.loadAt, Instr.sureAddr, Sem.run_bind, Sem.run_pure, Result.andThen_ok, run_loadVar_row W g t ty cs fr d hg hu hd hi]
theorem ents_is : Tryz.zeroCells81 = ((List.replicate 32 (0 : Int)).map (Value.int .u8) ++ Value.int .i64 0 :: (List.replicate 32 (0 : Int)).map (Value.int .u8)).toArray := by kernel_rfl
theorem led_putE (w : World) : Calls Tryz.prog 34 #[.agg Tryz.zeroCells81] w fun e w' => ∃ v : Value, e = .returned v ∧ Kd.R (Kd.int .u8) 5 w' w.heap.size (fun _ => True) v (List.replicate 65 0) ∧ Below w.heap.size w w' :=
  led_put 2 Tryz.zeroCells81 (List.replicate 32 0) (List.replicate 32 0) 0 (List.replicate 33 0) ents_is rfl rfl (by decide +kernel) (by decide) w
set_option maxHeartbeats 1600000 in
set_option maxRecDepth 100000 in
theorem led_add (g : Nat) (w : World) (hg : w.heap[g]? = some (.cells #[.slice none 0 0] 137 (0, 0))) :
    Calls Tryz.prog 48 #[.pointer (some ⟨g, 0, none⟩), .agg Tryz.zeroCells81] w fun e w' => e = .returned (.int .i64 0) ∧ Below g w w' := by
  have HG := Aside0.mk hg
  clear hg
  go_enter Tryz.func48, Tryz.ntmps48
  go_wp2_with (first | (refine gate_guard (by rfl) ?_; dsimp only; refine wpList_load_row rfl 81 (.tmp 3) rfl w.heap.size rfl 81 Tryz.zeroCells81 (0, 0) _ (heap_alloc_new w _) Tryz.underlying81 rfl (by rw [ents_size]; kernel_rfl) ?_) | (go_at_call 81; refine (led_right Tryz.zeroCells81 ents32 _).mono ?_; rintro e w1 ⟨rfl, hb1⟩; have HB1 := Aside0.mk hb1; clear hb1))
  have hbk : w1.drew.heap[w.heap.size]? = some (.cells Tryz.zeroCells81 81 (0, 0)) := (HB1.out.block _ (by simp)).trans (heap_alloc_new w _)
  have hbw : Below w.heap.size w w1.drew := below_drew ((below_alloc (Below.refl _ _) (.cells Tryz.zeroCells81 81)).trans (HB1.out.mono (by simp)))
  have hg2 : w1.drew.heap[g]? = some (.cells #[.slice none 0 0] 137 (0, 0)) := (hbw.block _ (blk_lt HG.out)).trans HG.out
  have hc0 := blk_cell hg2 0
  simp only [List.getElem?_toArray] at hc0
  have hk0 := hbk
  have HBK := Aside0.mk hbk
  have HBW := Aside0.mk hbw
  have HG2 := Aside0.mk hg2
  have hc0 : w1.drew.cell? ⟨g, 0, none⟩ = some (.slice none 0 0) := hc0
  have HC0 := Aside0.mk hc0
  clear hbk hbw hg2 HB1
  refine start_ (n := 14) (S := fun w' => w'.cell? ⟨g, 0, none⟩ = some (.slice none 0 0) ∧ w'.heap[w.heap.size]? = some (.cells Tryz.zeroCells81 81 (0, 0))) (ds := [13]) #[false, false, false, false, false, false, false, false, false, false, false, false, false, false] (by kernel_rfl) rfl rfl ⟨hc0, hk0⟩ (fun hHeld => ?_)
  generalize w1.drew = W2 at *
  refine pure_ (i := 0) (N := some 12) (v := ?_) (a' := ?_) #[true, false, false, false, false, false, false, false, false, false, false, false, false, false] rfl rfl (by kernel_rfl) (fun _ _ _ h => h) (Or.inl ⟨by rfl, ?_⟩) ?_ ?_
  rotate_left
  · intro w'
    go_simp
    with_reducible rfl
  rotate_left
  · simp only [Act.put, List.setIfInBounds_toArray, List.set_cons_zero, List.set_cons_succ, i64_w, i32_w]
    rfl
  refine pure_ (i := 1) (N := some 13) (v := ?_) (a' := ?_) #[true, true, false, false, false, false, false, false, false, false, false, false, false, false] rfl rfl (by kernel_rfl) (fun _ _ _ h => h) (Or.inl ⟨by rfl, ?_⟩) ?_ ?_
  rotate_left
  · intro w'
    go_simp
    with_reducible rfl
  rotate_left
  · simp only [Act.put, List.setIfInBounds_toArray, List.set_cons_zero, List.set_cons_succ, i64_w, i32_w]
    rfl
  refine pure_ (i := 2) (N := some 14) (v := ?_) (a' := ?_) #[true, true, true, false, false, false, false, false, false, false, false, false, false, false] rfl rfl (by kernel_rfl) (fun _ _ _ h => h) (Or.inl ⟨by rfl, ?_⟩) ?_ ?_
  rotate_left
  · intro w'
    go_simp
    with_reducible rfl
  rotate_left
  · simp only [Act.put, List.setIfInBounds_toArray, List.set_cons_zero, List.set_cons_succ, i64_w, i32_w]
    rfl
  refine pure_ (i := 3) (N := some 15) (v := ?_) (a' := ?_) #[true, true, true, true, false, false, false, false, false, false, false, false, false, false] rfl rfl (by kernel_rfl) (fun _ _ _ h => h) (Or.inl ⟨by rfl, ?_⟩) ?_ ?_
  rotate_left
  · intro w'
    go_simp
    with_reducible rfl
  rotate_left
  · simp only [Act.put, List.setIfInBounds_toArray, List.set_cons_zero, List.set_cons_succ, i64_w, i32_w]
    rfl
  refine take_ (i := 4) (N := some 16) (v := ?_) (a' := ?_) #[true, true, true, true, true, false, false, false, false, false, false, false, false, false] rfl rfl (by kernel_rfl) (fun _ _ _ h => h) (Or.inl ⟨by rfl, ?_⟩) hHeld ?_ ?_
  rotate_left
  · rintro w' ⟨s0, s1⟩
    go_simp
    with_reducible rfl
  rotate_left
  · simp only [Act.put, List.setIfInBounds_toArray, List.set_cons_zero, List.set_cons_succ, i64_w, i32_w]
    rfl
  refine take_ (i := 5) (N := some 17) (v := ?_) (a' := ?_) #[true, true, true, true, true, true, false, false, false, false, false, false, false, false] rfl rfl (by kernel_rfl) (fun _ _ _ h => h) (Or.inl ⟨by rfl, ?_⟩) hHeld ?_ ?_
  rotate_left
  · rintro w' ⟨s0, s1⟩
    refine exec_load 81 (.tmp 3) ?_ w.heap.size ?_ 81 Tryz.zeroCells81 (0, 0) _ s1 Tryz.underlying81 rfl ?_
    · rfl
    · rfl
    · rw [ents_size]; kernel_rfl
  rotate_left
  · simp only [Act.put, List.setIfInBounds_toArray, List.set_cons_zero, List.set_cons_succ, i64_w, i32_w]
    rfl
  refine take_ (i := 6) (N := some 18) (v := ?_) (a' := ?_) #[true, true, true, true, true, true, true, false, false, false, false, false, false, false] rfl rfl (by kernel_rfl) (fun _ _ _ h => h) (Or.inl ⟨by rfl, ?_⟩) hHeld ?_ ?_
  rotate_left
  · rintro w' ⟨s0, s1⟩
    refine exec_load 81 (.tmp 3) ?_ w.heap.size ?_ 81 Tryz.zeroCells81 (0, 0) _ s1 Tryz.underlying81 rfl ?_
    · rfl
    · rfl
    · rw [ents_size]; kernel_rfl
  rotate_left
  · simp only [Act.put, List.setIfInBounds_toArray, List.set_cons_zero, List.set_cons_succ, i64_w, i32_w]
    rfl
  refine one_ (i := 7) (N := some 19) #[true, true, true, true, true, true, true, true, false, false, false, false, false, false] rfl rfl (by kernel_rfl) (by decide) (fun K hK => ?_)
  refine goes_ Tryz.func34 (by kernel_rfl) rfl #[.agg Tryz.zeroCells81] (by rfl) rfl rfl (by simp only [List.map_toArray, List.map_cons, List.map_nil]; rfl) ?_
  with_reducible refine (led_putE W2).mono ?_
  rintro e w4 ⟨v4, rfl, ho4, hb4⟩
  refine ⟨_, rfl, ?_⟩
  obtain ⟨A4, c4, rfl⟩ := Kd.R_slice ho4
  have HB4 := Aside0.mk hb4
  clear ho4 hb4
  have hc0 := pw_cell_below HB4.out HC0.out
  have hk0 := (HB4.out.block _ (blk_lt HBK.out)).trans HBK.out
  refine hK.out _ _ ⟨hc0, hk0⟩ (fun hHeld => ?_)
  clear hK K
  refine norm_ (a' := ?_) ?_ ?_
  rotate_left
  · show Act.put _ (some 19) _ = _
    simp only [Act.put, List.setIfInBounds_toArray, List.set_cons_zero, List.set_cons_succ, i64_w, i32_w]
    rfl
  refine pure_ (i := 8) (N := some 20) (v := ?_) (a' := ?_) #[true, true, true, true, true, true, true, true, true, false, false, false, false, false] rfl rfl (by kernel_rfl) (fun _ _ _ h => h) (Or.inl ⟨by rfl, ?_⟩) ?_ ?_
  rotate_left
  · intro w'
    show _ = Result.ok (Next.value (Value.agg (Tryz.zeroCells81.toList ++ [Value.slice A4 (List.replicate 65 (0 : Int)).length c4]).toArray)) w'
    kernel_rfl
  rotate_left
  · simp only [Act.put, List.setIfInBounds_toArray, List.set_cons_zero, List.set_cons_succ, i64_w, i32_w]
    rfl
  refine one_ (i := 9) (N := some 21) #[true, true, true, true, true, true, true, true, true, true, false, false, false, false] rfl rfl (by kernel_rfl) (by decide) (fun K hK => ?_)
  refine value_ (w1 := ?_) (v := ?_) (by rfl) rfl ?_ ?_
  rotate_left 2
  · show _ = Result.ok (Next.value (Value.slice (some ⟨w4.heap.size, 0, none⟩) 1 1)) (w4.alloc (.cells (Tryz.zeroCells81.toList ++ [Value.slice A4 (List.replicate 65 (0 : Int)).length c4]).toArray 140))
    kernel_rfl
  have hone : (Tryz.zeroCells81.toList ++ [Value.slice A4 (List.replicate 65 (0 : Int)).length c4]).all (·.oneCell') = true := by kernel_rfl
  have hb9 : Below W2.heap.size W2 (w4.alloc (.cells (Tryz.zeroCells81.toList ++ [Value.slice A4 (List.replicate 65 (0 : Int)).length c4]).toArray 140)) := below_alloc HB4.out _
  have hc0 := pw_cell_below hb9 HC0.out
  have hk0 := (hb9.block _ (blk_lt HBK.out)).trans HBK.out
  refine hK.out _ _ ⟨hc0, hk0⟩ (fun hHeld => ?_)
  clear hK K
  refine norm_ (a' := ?_) ?_ ?_
  rotate_left
  · show Act.put _ (some 21) _ = _
    simp only [Act.put, List.setIfInBounds_toArray, List.set_cons_zero, List.set_cons_succ, i64_w, i32_w]
    rfl
  refine one_ (i := 10) (N := some 22) #[true, true, true, true, true, true, true, true, true, true, true, false, false, false] rfl rfl (by kernel_rfl) (by decide) (fun K hK => ?_)
  refine Kd.R_append_step (Kd.raw 66) (w0 := W2) W2.heap.size (by rfl) (.tmp 16) (.tmp 21) 135 140 (.agg Tryz.zeroCells140) 96 rfl Tryz.underlying135 (by kernel_rfl) (by kernel_rfl) (by decide) (by decide) (.slice none 0 0) [] (Tryz.zeroCells81.toList ++ [Value.slice A4 (List.replicate 65 (0 : Int)).length c4]) (Tryz.zeroCells81.toList ++ [Value.slice A4 (List.replicate 65 (0 : Int)).length c4]) (fun _ => True) (fun _ => False) rfl rfl ⟨rfl, rfl, fun u hu => List.all_eq_true.1 hone u hu⟩ (fun _ h => h.elim) (fun _ _ => trivial) (Kd.R_nil _ _ _ _ _) HB4.out HB4.out.size (by decide) ?_
  intro v5 w5 ho5 hb5 _ _
  obtain ⟨A5, c5, rfl⟩ := Kd.R_slice ho5
  have HB5 := Aside0.mk hb5
  clear ho5 hb5
  have hg5 := (HB5.out.block _ (blk_lt HG2.out)).trans HG2.out
  have hf5 := blk_frozen hg5 0
  have hc0 := pw_cell_below HB5.out HC0.out
  have hk0 := (HB5.out.block _ (blk_lt HBK.out)).trans HBK.out
  refine hK.out _ _ ⟨hc0, hk0⟩ (fun hHeld => ?_)
  clear hK K
  refine norm_ (a' := ?_) ?_ ?_
  rotate_left
  · show Act.put _ (some 22) _ = _
    simp only [Act.put, List.setIfInBounds_toArray, List.set_cons_zero, List.set_cons_succ, i64_w, i32_w]
    rfl
  refine pure_ (i := 11) (N := some 23) (v := ?_) (a' := ?_) #[true, true, true, true, true, true, true, true, true, true, true, true, false, false] rfl rfl (by kernel_rfl) (fun _ _ _ h => h) (Or.inl ⟨by rfl, ?_⟩) ?_ ?_
  rotate_left
  · intro w'
    go_simp
    with_reducible rfl
  rotate_left
  · simp only [Act.put, List.setIfInBounds_toArray, List.set_cons_zero, List.set_cons_succ, i64_w, i32_w]
    rfl
  refine pure_ (i := 12) (N := some 24) (v := ?_) (a' := ?_) #[true, true, true, true, true, true, true, true, true, true, true, true, true, false] rfl rfl (by kernel_rfl) (fun _ _ _ h => h) (Or.inl ⟨by rfl, ?_⟩) ?_ ?_
  rotate_left
  · intro w'
    go_simp
    with_reducible rfl
  rotate_left
  · simp only [Act.put, List.setIfInBounds_toArray, List.set_cons_zero, List.set_cons_succ, i64_w, i32_w]
    rfl
  refine last_ (i := 13) (N := none) #[true, true, true, true, true, true, true, true, true, true, true, true, true, true] rfl rfl (by kernel_rfl) (by decide) (fun K hK => ?_)
  refine skip_ (w1 := ?_) (by rfl) rfl ?_ ?_
  rotate_left
  · go_simp
    rfl
  refine hK.out _ _ ?_
  clear hK K
  refine done_ (by kernel_rfl) ?_
  go_wp2
  go_ret
  exact ⟨rfl, ((HBW.out.trans (HB5.out.mono HBW.out.size)).mono (Nat.le_of_lt (blk_lt HG.out))).setCell (Nat.le_refl _) _⟩
end Go.Proofs.YtjmhiklmlgbifaaGreatDoor.PMan
end
section
namespace Go.Proofs.YtjmhiklmlgbifaaGreatDoor.PMan
open Go.RowKit Go.Proofs.YtjmhiklmlgbifaaGreatDoorW.PrintWords Go.Proofs.YtjmhiklmlgbifaaGreatDoorW.PrintLast Go.Proofs.YtjmhiklmlgbifaaGreatDoorW.PrintMore
set_option linter.unusedVariables false
set_option linter.unusedSimpArgs false
/-- A short number's bytes. -/
def varN : Nat → Int → List Int
  | 0, x => [x % 256]
  | n + 1, x => if x ≥ 128 then Go.bits .or .u8 (x % 256) 128 :: varN n (x / 128) else [x % 256]
def varP (x : Int) : List Int := varN 9 x
theorem varN_len (n : Nat) (x : Int) : (varN n x).length ≤ n + 1 := by
  induction n generalizing x with
  | zero => simp [varN]
  | succ n ih =>
    unfold varN
    split
    · have := ih (x / 128)
      rw [List.length_cons]
      omega
    · simp
theorem varP_len (x : Int) : (varP x).length ≤ 10 := varN_len 9 x
theorem putVar_l0 : ∀ (n : Nat) (l : List Int) (x : Int), 0 ≤ x → x < 128 ^ (n + 1) → l.length + n < 140737488355328 → num_PutVar.l0 (n + 1) l x = some (l ++ varN n x)
  | 0, l, x, h0, h1, hl => by
    rw [num_PutVar.l0, if_neg (by omega), if_pos (by omega)]
    rfl
  | n + 1, l, x, h0, h1, hl => by
    rw [num_PutVar.l0, varN]
    by_cases h : x ≥ 128
    · rw [if_pos h, if_pos h, if_pos (by omega), putVar_l0 n _ (x / 128) (by omega) (by rw [Int.pow_succ] at h1; omega) (by rw [List.length_append, List.length_singleton]; omega), List.append_assoc]
      rfl
    · rw [if_neg h, if_neg h, if_pos (by omega)]
theorem putVar_p (l : List Int) (x : Int) (h0 : 0 ≤ x) (h1 : x < 18446744073709551616) (hl : l.length < 100000000000000) : num_PutVar.f 10 l x = some (l ++ varP x) :=
  putVar_l0 9 l x h0 (by have : (128 : Int) ^ (9 + 1) = 1180591620717411303424 := by decide
                         omega) (by omega)
/-- An entry's cells, its bytes told by functions. -/
def EC (f h : Nat → Int) (gg : Int) : Array Value := (enCells ⟨(List.range 32).map f, gg, (List.range 32).map h⟩).toArray
theorem EC_size (f h : Nat → Int) (gg : Int) : (EC f h gg).size = 65 := by kernel_rfl
theorem EC_32 (f h : Nat → Int) (gg : Int) : (EC f h gg)[32]? = some (.int .i64 gg) := by kernel_rfl
theorem EC_all (f h : Nat → Int) (gg : Int) : (EC f h gg).all (·.oneCell') = true := by kernel_rfl
theorem range_fn (s : List Int) (hs : s.length = 32) : s = (List.range 32).map (fun i => s.getD i 0) := by
  apply List.ext_getElem
  · simp [hs]
  · intro i h1 h2
    simp [List.getD_eq_getElem?_getD, h1]
theorem EC_of (x : En) (hs : x.s.length = 32) (hr : x.r.length = 32) : (enCells x).toArray = EC (fun i => x.s.getD i 0) (fun i => x.r.getD i 0) x.g := by
  obtain ⟨s, g, r⟩ := x
  unfold EC
  rw [← range_fn s hs, ← range_fn r hr]
/-- An entry's form. -/
def entP (x : En) : List Int := x.s ++ varP x.g ++ x.r
def enP (f h : Nat → Int) (gg : Int) : List Int := ((List.range 32).map f ++ varP gg) ++ (List.range 32).map h
theorem enP_of (x : En) (hs : x.s.length = 32) (hr : x.r.length = 32) : enP (fun i => x.s.getD i 0) (fun i => x.r.getD i 0) x.g = entP x := by
  unfold enP entP
  rw [← range_fn x.s hs, ← range_fn x.r hr]
theorem u64_small (x : Int) (h0 : 0 ≤ x) (h1 : x < 18446744073709551616) : IntKind.u64.wrap x = x := by
  rw [IntKind.wrap_u64]
  omega
theorem entPut_calls (f h : Nat → Int) (gg : Int) (h0 : 0 ≤ gg) (h1 : gg ≤ 1048576) (w : World) : Calls Tryz.prog 34 #[.agg (EC f h gg)] w fun e w' => ∃ v : Value, e = .returned v ∧ Kd.R (Kd.int .u8) 5 w' w.heap.size (fun _ => True) v (enP f h gg) ∧ Below w.heap.size w w' := by
  have hv := putVar_p ((List.range 32).map f) gg h0 (by omega) (by rw [List.length_map, List.length_range]; omega)
  have hl := varP_len gg
  exact led_put 10 (EC f h gg) ((List.range 32).map f) ((List.range 32).map h) gg _ rfl (by rw [List.length_map, List.length_range]) (by rw [List.length_map, List.length_range]) (by rw [u64_small gg h0 (by omega)]; exact hv) (by rw [List.length_append, List.length_map, List.length_range]; omega) w
def rightB (gg : Int) : Bool := decide (0 ≤ gg) && decide (gg ≤ 1048576)
set_option maxHeartbeats 1600000 in
set_option maxRecDepth 100000 in
theorem right_calls (f h : Nat → Int) (gg : Int) (w : World) : Calls Tryz.prog 81 #[.agg (EC f h gg)] w fun e w' => e = .returned (.bool (rightB gg)) ∧ Below w.heap.size w w' := by
  have h32 := EC_32 f h gg
  generalize EC f h gg = c at *
  by_cases g0 : 0 ≤ gg
  · by_cases g1 : gg ≤ 1048576
    · go_enter Tryz.func81, Tryz.ntmps81
      go_wp2
      go_ret
      exact ⟨by unfold rightB; simp [g0, g1], below_alloc (Below.refl _ _) _⟩
    · go_enter Tryz.func81, Tryz.ntmps81
      go_wp2
      go_ret
      exact ⟨by unfold rightB; simp; omega, below_alloc (Below.refl _ _) _⟩
  · go_enter Tryz.func81, Tryz.ntmps81
    go_wp2
    go_ret
    exact ⟨by unfold rightB; simp; omega, below_alloc (Below.refl _ _) _⟩
end Go.Proofs.YtjmhiklmlgbifaaGreatDoor.PMan
end
section
namespace Go.Proofs.YtjmhiklmlgbifaaGreatDoor.PMan
open Go.RowKit Go.Proofs.YtjmhiklmlgbifaaGreatDoorW.PrintWords Go.Proofs.YtjmhiklmlgbifaaGreatDoorW.PrintLast Go.Proofs.YtjmhiklmlgbifaaGreatDoorW.PrintMore
set_option linter.unusedVariables false
set_option linter.unusedSimpArgs false
/-- A ledger at block g, of at most n entries. -/
def LedP (w : World) (g n : Nat) : Prop := ∃ v xs, w.heap[g]? = some (.cells #[v] 137 (0, 0)) ∧ Kd.R (Kd.raw 66) 140 w (g + 1) (fun _ => True) v xs ∧ xs.length ≤ n
theorem LedP.below {w w' : World} {g n : Nat} (h : LedP w g n) (hb : Below w.heap.size w w') : LedP w' g n := by
  obtain ⟨v, xs, h1, h2, h3⟩ := h
  exact ⟨v, xs, (hb.block _ (blk_lt h1)).trans h1, Kd.R_below h2 hb, h3⟩
theorem LedP.mk {w : World} {g n : Nat} {v : Value} {xs : List (List Value)} (h1 : w.heap[g]? = some (.cells #[v] 137 (0, 0))) (h2 : Kd.R (Kd.raw 66) 140 w (g + 1) (fun _ => True) v xs) (h3 : xs.length ≤ n) : LedP w g n := ⟨v, xs, h1, h2, h3⟩
set_option maxHeartbeats 1600000 in
set_option maxRecDepth 100000 in
theorem add_calls (f h : Nat → Int) (gg : Int) (g n : Nat) (w : World) (hg : LedP w g n) (hn : n ≤ 1000000) :
    Calls Tryz.prog 48 #[.pointer (some ⟨g, 0, none⟩), .agg (EC f h gg)] w fun e w' => e = .returned (.int .i64 (if rightB gg = true then 0 else 1)) ∧ Below g w w' ∧ LedP w' g (n + 1) := by
  obtain ⟨v0, xs, hg, ho, hxn⟩ := hg
  have hxl : xs.length ≤ 1000000 := by omega
  have HXN := Aside0.mk hxn
  have HG := Aside0.mk hg
  have HO := Aside0.mk ho
  have HXL := Aside0.mk hxl
  clear hg ho hxl hxn hn
  have hsz := EC_size f h gg
  obtain ⟨rc, hrc⟩ : ∃ rc : Int, rc = (if rightB gg = true then 0 else 1) := ⟨_, rfl⟩
  rw [← hrc]
  have HRC := Aside0.mk hrc
  clear hrc
  go_enter Tryz.func48, Tryz.ntmps48
  go_wp2_with (first | (refine gate_guard (by rfl) ?_; dsimp only; refine wpList_load_row rfl 81 (.tmp 3) rfl w.heap.size rfl 81 (EC f h gg) (0, 0) _ (heap_alloc_new w _) Tryz.underlying81 rfl (by rw [EC_size]; kernel_rfl) ?_) | fail)
  refine (right_calls f h gg _).mono ?_
  rintro e w1 ⟨rfl, hb1⟩
  have HB1 := Aside0.mk (below_call (below_alloc (Below.refl w.heap.size w) (.cells (EC f h gg) 81)) hb1)
  have hbk := (hb1.block _ (by simp)).trans (heap_alloc_new w (.cells (EC f h gg) 81))
  have HBK1 := Aside0.mk hbk
  clear hb1 hbk
  have hg1 := (HB1.out.block _ (blk_lt HG.out)).trans HG.out
  have HG1 := Aside0.mk hg1
  clear hg1
  cases hr : rightB gg with
  | false =>
    go_wp2
    go_ret
    exact ⟨by rw [HRC.out, hr]; rfl, HB1.out.mono (Nat.le_of_lt (blk_lt HG.out)), .mk HG1.out (Kd.R_below HO.out HB1.out) (by have := HXN.out; omega)⟩
  | true =>
    have HGG := Aside0.mk (show 0 ≤ gg ∧ gg ≤ 1048576 by simpa [rightB] using hr)
    go_wp2_with fail
    have hbk : w1.drew.heap[w.heap.size]? = some (.cells (EC f h gg) 81 (0, 0)) := HBK1.out
    have hbw : Below w.heap.size w w1.drew := below_drew HB1.out
    have hg2 : w1.drew.heap[g]? = some (.cells #[v0] 137 (0, 0)) := HG1.out
    have hc0 : w1.drew.cell? ⟨g, 0, none⟩ = some v0 := blk_cell hg2 0
    have ho2 : Kd.R (Kd.raw 66) 140 w1.drew (g + 1) (fun _ => True) v0 xs := Kd.R_below HO.out hbw
    have hk0 := hbk
    have HBK := Aside0.mk hbk
    have HBW := Aside0.mk hbw
    have HG2 := Aside0.mk hg2
    have HO2 := Aside0.mk ho2
    have HC0 := Aside0.mk hc0
    clear hbk hbw hg2 HB1 HBK1 HG1 ho2
    refine start_ (n := 14) (S := fun w' => w'.cell? ⟨g, 0, none⟩ = some v0 ∧ w'.heap[w.heap.size]? = some (.cells (EC f h gg) 81 (0, 0))) (ds := [10, 13]) #[false, false, false, false, false, false, false, false, false, false, false, false, false, false] (by kernel_rfl) rfl rfl ⟨hc0, hk0⟩ (fun hHeld => ?_)
    generalize w1.drew = W2 at *
    refine pure_ (i := 0) (N := some 12) (v := ?_) (a' := ?_) #[true, false, false, false, false, false, false, false, false, false, false, false, false, false] rfl rfl (by kernel_rfl) (fun _ _ _ h => h) (Or.inl ⟨by rfl, ?_⟩) ?_ ?_
    rotate_left
    · intro w'
      go_simp
      with_reducible rfl
    rotate_left
    · simp only [Act.put, List.setIfInBounds_toArray, List.set_cons_zero, List.set_cons_succ, i64_w, i32_w]
      rfl
    refine pure_ (i := 1) (N := some 13) (v := ?_) (a' := ?_) #[true, true, false, false, false, false, false, false, false, false, false, false, false, false] rfl rfl (by kernel_rfl) (fun _ _ _ h => h) (Or.inl ⟨by rfl, ?_⟩) ?_ ?_
    rotate_left
    · intro w'
      go_simp
      with_reducible rfl
    rotate_left
    · simp only [Act.put, List.setIfInBounds_toArray, List.set_cons_zero, List.set_cons_succ, i64_w, i32_w]
      rfl
    refine pure_ (i := 2) (N := some 14) (v := ?_) (a' := ?_) #[true, true, true, false, false, false, false, false, false, false, false, false, false, false] rfl rfl (by kernel_rfl) (fun _ _ _ h => h) (Or.inl ⟨by rfl, ?_⟩) ?_ ?_
    rotate_left
    · intro w'
      go_simp
      with_reducible rfl
    rotate_left
    · simp only [Act.put, List.setIfInBounds_toArray, List.set_cons_zero, List.set_cons_succ, i64_w, i32_w]
      rfl
    refine pure_ (i := 3) (N := some 15) (v := ?_) (a' := ?_) #[true, true, true, true, false, false, false, false, false, false, false, false, false, false] rfl rfl (by kernel_rfl) (fun _ _ _ h => h) (Or.inl ⟨by rfl, ?_⟩) ?_ ?_
    rotate_left
    · intro w'
      go_simp
      with_reducible rfl
    rotate_left
    · simp only [Act.put, List.setIfInBounds_toArray, List.set_cons_zero, List.set_cons_succ, i64_w, i32_w]
      rfl
    refine take_ (i := 4) (N := some 16) (v := ?_) (a' := ?_) #[true, true, true, true, true, false, false, false, false, false, false, false, false, false] rfl rfl (by kernel_rfl) (fun _ _ _ h => h) (Or.inl ⟨by rfl, ?_⟩) hHeld ?_ ?_
    rotate_left
    · rintro w' ⟨s0, s1⟩
      go_simp
      with_reducible rfl
    rotate_left
    · simp only [Act.put, List.setIfInBounds_toArray, List.set_cons_zero, List.set_cons_succ, i64_w, i32_w]
      rfl
    refine take_ (i := 5) (N := some 17) (v := ?_) (a' := ?_) #[true, true, true, true, true, true, false, false, false, false, false, false, false, false] rfl rfl (by kernel_rfl) (fun _ _ _ h => h) (Or.inl ⟨by rfl, ?_⟩) hHeld ?_ ?_
    rotate_left
    · rintro w' ⟨s0, s1⟩
      refine exec_load 81 (.tmp 3) ?_ w.heap.size ?_ 81 (EC f h gg) (0, 0) _ s1 Tryz.underlying81 rfl ?_
      · rfl
      · rfl
      · rw [EC_size]; kernel_rfl
    rotate_left
    · simp only [Act.put, List.setIfInBounds_toArray, List.set_cons_zero, List.set_cons_succ, i64_w, i32_w]
      rfl
    refine take_ (i := 6) (N := some 18) (v := ?_) (a' := ?_) #[true, true, true, true, true, true, true, false, false, false, false, false, false, false] rfl rfl (by kernel_rfl) (fun _ _ _ h => h) (Or.inl ⟨by rfl, ?_⟩) hHeld ?_ ?_
    rotate_left
    · rintro w' ⟨s0, s1⟩
      refine exec_load 81 (.tmp 3) ?_ w.heap.size ?_ 81 (EC f h gg) (0, 0) _ s1 Tryz.underlying81 rfl ?_
      · rfl
      · rfl
      · rw [EC_size]; kernel_rfl
    rotate_left
    · simp only [Act.put, List.setIfInBounds_toArray, List.set_cons_zero, List.set_cons_succ, i64_w, i32_w]
      rfl
    refine one_ (i := 7) (N := some 19) #[true, true, true, true, true, true, true, true, false, false, false, false, false, false] rfl rfl (by kernel_rfl) (by decide) (fun K hK => ?_)
    refine goes_ Tryz.func34 (by kernel_rfl) rfl #[.agg (EC f h gg)] (by rfl) rfl rfl (by simp only [List.map_toArray, List.map_cons, List.map_nil]; rfl) ?_
    with_reducible refine (entPut_calls f h gg HGG.out.1 HGG.out.2 W2).mono ?_
    rintro e w4 ⟨v4, rfl, ho4, hb4⟩
    refine ⟨_, rfl, ?_⟩
    obtain ⟨A4, c4, rfl⟩ := Kd.R_slice ho4
    have HB4 := Aside0.mk hb4
    clear ho4 hb4
    have hc0 := pw_cell_below HB4.out HC0.out
    have hk0 := (HB4.out.block _ (blk_lt HBK.out)).trans HBK.out
    refine hK.out _ _ ⟨hc0, hk0⟩ (fun hHeld => ?_)
    clear hK K
    refine norm_ (a' := ?_) ?_ ?_
    rotate_left
    · show Act.put _ (some 19) _ = _
      simp only [Act.put, List.setIfInBounds_toArray, List.set_cons_zero, List.set_cons_succ, i64_w, i32_w]
      rfl
    refine pure_ (i := 8) (N := some 20) (v := ?_) (a' := ?_) #[true, true, true, true, true, true, true, true, true, false, false, false, false, false] rfl rfl (by kernel_rfl) (fun _ _ _ h => h) (Or.inl ⟨by rfl, ?_⟩) ?_ ?_
    rotate_left
    · intro w'
      show _ = Result.ok (Next.value (Value.agg (((EC f h gg).toList ++ [Value.slice A4 (enP f h gg).length c4])).toArray)) w'
      kernel_rfl
    rotate_left
    · simp only [Act.put, List.setIfInBounds_toArray, List.set_cons_zero, List.set_cons_succ, i64_w, i32_w]
      rfl
    refine one_ (i := 9) (N := some 21) #[true, true, true, true, true, true, true, true, true, true, false, false, false, false] rfl rfl (by kernel_rfl) (by decide) (fun K hK => ?_)
    refine value_ (w1 := ?_) (v := ?_) (by rfl) rfl ?_ ?_
    rotate_left 2
    · show _ = Result.ok (Next.value (Value.slice (some ⟨w4.heap.size, 0, none⟩) 1 1)) (w4.alloc (.cells ((EC f h gg).toList ++ [Value.slice A4 (enP f h gg).length c4]).toArray 140))
      kernel_rfl
    have hone : ((EC f h gg).toList ++ [Value.slice A4 (enP f h gg).length c4]).all (·.oneCell') = true := by kernel_rfl
    have hlen : ((EC f h gg).toList ++ [Value.slice A4 (enP f h gg).length c4]).length = 66 := by kernel_rfl
    have hb9 : Below W2.heap.size W2 (w4.alloc (.cells ((EC f h gg).toList ++ [Value.slice A4 (enP f h gg).length c4]).toArray 140)) := below_alloc HB4.out _
    have hc0 := pw_cell_below hb9 HC0.out
    have hk0 := (hb9.block _ (blk_lt HBK.out)).trans HBK.out
    refine hK.out _ _ ⟨hc0, hk0⟩ (fun hHeld => ?_)
    clear hK K
    refine norm_ (a' := ?_) ?_ ?_
    rotate_left
    · show Act.put _ (some 21) _ = _
      simp only [Act.put, List.setIfInBounds_toArray, List.set_cons_zero, List.set_cons_succ, i64_w, i32_w]
      rfl
    refine last_ (i := 10) (N := some 22) #[true, true, true, true, true, true, true, true, true, true, true, false, false, false] rfl rfl (by kernel_rfl) (by decide) (fun K hK => ?_)
    have hO4 : Kd.R (Kd.raw 66) 140 w4 (g + 1) (fun _ => True) v0 xs := Kd.R_below HO2.out HB4.out
    have hB9 : Below (g + 1) W2 w4 := HB4.out.mono (by have := blk_lt HG2.out; omega)
    refine Kd.R_append_step (Kd.raw 66) (w0 := W2) (g + 1) (by rfl) (.tmp 16) (.tmp 21) 135 140 (.agg Tryz.zeroCells140) 96 rfl Tryz.underlying135 (by kernel_rfl) (by kernel_rfl) (by decide) (by decide) v0 xs ((EC f h gg).toList ++ [Value.slice A4 (enP f h gg).length c4]) ((EC f h gg).toList ++ [Value.slice A4 (enP f h gg).length c4]) (fun _ => True) (fun _ => False) rfl rfl ⟨rfl, hlen, fun u hu => List.all_eq_true.1 hone u hu⟩ (fun _ h => h.elim) (fun _ _ => trivial) hO4 hB9 (Nat.le_trans (by have := blk_lt HG2.out; omega) HB4.out.size) (by have := HXL.out; omega) ?_
    intro v5 w5 ho5 hb5 _ _
    have HO5 := Aside0.mk ho5
    have HB5 := Aside0.mk hb5
    clear ho5 hb5 hO4 hB9
    obtain ⟨A5, c5, rfl⟩ := Kd.R_slice HO5.out
    have hg5 := (HB5.out.block _ (by omega)).trans HG2.out
    have hf5 := blk_frozen hg5 0
    have hc0 : w5.cell? ⟨g, 0, none⟩ = some v0 := blk_cell hg5 0
    have HG5 := Aside0.mk hg5
    refine hK.out _ _ ?_
    clear hK K
    refine norm_ (a' := ?_) ?_ ?_
    rotate_left
    · show Act.put _ (some 22) _ = _
      simp only [Act.put, List.setIfInBounds_toArray, List.set_cons_zero, List.set_cons_succ, i64_w, i32_w]
      rfl
    refine pure_ (i := 11) (N := some 23) (v := ?_) (a' := ?_) #[true, true, true, true, true, true, true, true, true, true, true, true, false, false] rfl rfl (by kernel_rfl) (fun _ _ _ h => h) (Or.inl ⟨by rfl, ?_⟩) ?_ ?_
    rotate_left
    · intro w'
      go_simp
      with_reducible rfl
    rotate_left
    · simp only [Act.put, List.setIfInBounds_toArray, List.set_cons_zero, List.set_cons_succ, i64_w, i32_w]
      rfl
    refine pure_ (i := 12) (N := some 24) (v := ?_) (a' := ?_) #[true, true, true, true, true, true, true, true, true, true, true, true, true, false] rfl rfl (by kernel_rfl) (fun _ _ _ h => h) (Or.inl ⟨by rfl, ?_⟩) ?_ ?_
    rotate_left
    · intro w'
      go_simp
      with_reducible rfl
    rotate_left
    · simp only [Act.put, List.setIfInBounds_toArray, List.set_cons_zero, List.set_cons_succ, i64_w, i32_w]
      rfl
    refine last_ (i := 13) (N := none) #[true, true, true, true, true, true, true, true, true, true, true, true, true, true] rfl rfl (by kernel_rfl) (by decide) (fun K hK => ?_)
    refine skip_ (w1 := ?_) (by rfl) rfl ?_ ?_
    rotate_left
    · go_simp
      rfl
    refine hK.out _ _ ?_
    clear hK K
    refine done_ (by kernel_rfl) ?_
    go_wp2
    go_ret
    have hlast : LedP (w5.setCell ⟨g, 0, none⟩ (.slice A5 (xs.length + 1) c5)) g (n + 1) := by
      have hl5 : (xs ++ [((EC f h gg).toList ++ [Value.slice A4 (enP f h gg).length c4])]).length = xs.length + 1 := by rw [List.length_append, List.length_singleton]
      have h0 := HO5.out
      rw [hl5] at h0
      exact .mk (one_setCell HG5.out) (Kd.R_mono (Kd.R_move (Kd.R_bound h0) (fun k hk => by
        have := hk.2.1
        show (w5.heap.modify g _)[k]? = _
        rw [Array.getElem?_modify, if_neg (by omega)])) (fun _ _ => trivial)) (by rw [hl5]; have := HXN.out; omega)
    exact ⟨by rw [HRC.out, hr]; rfl, ((HBW.out.mono (Nat.le_of_lt (blk_lt HG.out))).trans (HB5.out.mono (Nat.le_succ g))).setCell (Nat.le_refl _) _, hlast⟩
end Go.Proofs.YtjmhiklmlgbifaaGreatDoor.PMan
end

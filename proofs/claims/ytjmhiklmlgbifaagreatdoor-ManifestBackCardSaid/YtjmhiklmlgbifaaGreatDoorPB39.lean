/- Texts of this proof, put into one, without what it does not use: MuL. -/
import Derived.Test.YtjmhiklmlgbifaaGreatDoorPB38
section
namespace Go.Proofs.YtjmhiklmlgbifaaGreatDoor.PMan
open Go.RowKit Go.Proofs.YtjmhiklmlgbifaaGreatDoorW.PrintWords Go.Proofs.YtjmhiklmlgbifaaGreatDoorW.PrintLast Go.Proofs.YtjmhiklmlgbifaaGreatDoorW.PrintMore
attribute [local go_sem] max2_int min2_int max_two min_two
set_option linter.unusedVariables false
set_option linter.unusedSimpArgs false
theorem wpList_build {P : Program} {ops : Array Oper} {rest : List Oper} {o : Oper} {a : Act} {w : World} {Q : Exit → Act → World → Prop} (hgd : o.guard = none) (t : TypeId) (n : Nat) (xs : Array (Nat × Operand)) (ho : o.op = .buildSlice t n xs) (v : Value) (w1 : World) (he : (execOp a.eval o).run P w = .ok (.value v) w1)
    (h : wpList P ops Q rest (a.put o.dst v) w1) : wpList P ops Q (o :: rest) a w := wpList_exec hgd v w1 he h
theorem m_belowRow' {B : Nat} {w W : World} (h : Below B w W) (g : Nat) (hg : B ≤ g) (c : Array Value) : Below B w (W.setRow g c) :=
  ⟨h.os, h.tape, h.output, by rw [setRow_size]; exact h.size, fun k hk => (setRow_other W g k c (by omega)).trans (h.block k hk)⟩
theorem R_setRow {α : Type} {d : Kd α} {e base : Nat} {ok : Nat → Prop} {W : World} {v : Value} {xs : List α} (h : d.R e W base ok v xs) {b t : Nat} {cs : Array Value} (hx : W.heap[b]? = some (.cells cs t (0, 0))) (ht : ∀ q, q ∈ e :: d.E → q ≠ t) (c : Array Value) : d.R e (W.setRow b c) base ok v xs :=
  Kd.R_mono (Kd.R_step (Kd.R_types h hx ht) (fun k hk _ => setRow_other W b k c hk.2)) (fun _ hk => hk.1)
/-- A store of a row into another block. -/
theorem Mr.setRow {w W : World} {g mb rb : Nat} {s0 : List Int} {q : St} {C : Array Value} (h : Mr w W g mb rb s0 q C) {b t : Nat} {cs : Array Value} (hx : W.heap[b]? = some (.cells cs t (0, 0))) (ht : t ≠ 184) (hb : g < b) (hr : b ≠ rb) (c : Array Value) : Mr w (W.setRow b c) g mb rb s0 q C := by
  obtain ⟨⟨w0, h1, h2, h3⟩, hm, hrk, hbl, hmw, hmg, hrg, hnb⟩ := h
  exact ⟨⟨w0, h1.setRow hx ht hb c, h2, h3⟩, (setRow_other W b mb c (by omega)).trans hm, (setRow_other W b rb c (Ne.symm hr)).trans hrk, m_belowRow' hbl b (by omega) c, hmw, hmg, hrg, hnb⟩
theorem endQ_zero {s0 : List Int} {q : St} (h : endQ s0 q = 0) : q.2.1 = 0 := by
  unfold endQ at h
  by_cases e : q.2.1 = 0
  · exact e
  · rw [if_neg e] at h
    exact h
theorem endQ_err {s0 : List Int} {q : St} (h : q.2.1 ≠ 0) : endQ s0 q ≠ 0 := by
  unfold endQ
  rw [if_neg h]
  exact h
theorem takeRowsQ_err {s0 : List Int} {s : List S123} {q : St} (h : q.2.1 ≠ 0) : takeRowsQ s0 s q = ([], q) := by
  unfold takeRowsQ rowsN
  rw [varQ_err h]
  dsimp only
  rw [if_neg (by decide), okL_zero]
  show (if q.2.1 = 0 then [] else [], q) = _
  rw [if_neg h]
theorem R_any {α : Type} {d : Kd α} {e base : Nat} {ok : Nat → Prop} {W W1 : World} {v : Value} {xs : List α} (h : d.R e W base ok v xs) (hm : ∀ k, base ≤ k → k < W.heap.size → W1.heap[k]? = W.heap[k]?) : d.R e W1 base ok v xs :=
  Kd.R_mono (Kd.R_step (Kd.R_bound h) (fun k hk hl => hm k hk.2.1 hl)) (fun _ h => h.1)
theorem mnc_of {W W1 : World} {g : Nat} {m : Mn} {As Ag Al Ae : Option Addr} {cs cg cl ce : Nat} {o1 o2 o3 o4 : Nat → Prop} (hS : Kd.R k123 123 W (g + 1) o1 (.slice As m.schema.length cs) m.schema) (hG : Kd.R kRf 66 W (g + 1) o2 (.slice Ag m.groups.length cg) m.groups) (hL : Kd.R (Kd.slice 68 k68) 89 W (g + 1) o3 (.slice Al m.loose.length cl) m.loose) (hE : Kd.R kEn 81 W (g + 1) o4 (.slice Ae m.entries.length ce) m.entries)
    (hm : ∀ k, g + 1 ≤ k → k < W.heap.size → W1.heap[k]? = W.heap[k]?) : MnC W1 m As cs Ag cg Al cl Ae ce :=
  ⟨(Kd.R_reads' (R_any hS hm)).2.2, (Kd.R_reads' hS).2.1, (Kd.R_reads' (R_any hG hm)).2.2, (Kd.R_reads' hG).2.1, (Kd.R_reads' (R_any hL hm)).2.2, (Kd.R_reads' hL).2.1, (Kd.R_reads' (R_any hE hm)).2.2, (Kd.R_reads' hE).2.1⟩
/-- What manifest.read answers: a manifest that is laid, and an error or none. -/
structure ReadA (w w' : World) (s0 : List Int) (m : Mn) (As : Option Addr) (cs : Nat) (Ag : Option Addr) (cg : Nat) (Al : Option Addr) (cl : Nat) (Ae : Option Addr) (ce : Nat) (ev : Value) (good : Prop) : Prop where
  c : ∀ W : World, (∀ k, w.heap.size ≤ k → k < w'.heap.size → W.heap[k]? = w'.heap[k]?) → MnC W m As cs Ag cg Al cl Ae ce
  bel : Below w.heap.size w w'
  yes : good → ev = .nilIface
  no : ¬ good → ∃ x : Int, ev = .iface 156 (.agg #[.int .i64 x])
set_option maxHeartbeats 64000000 in
set_option maxRecDepth 100000 in
theorem read_core (A0 : Option Addr) (c0 : Nat) (s0 : List Int) (w : World) (hr0 : Kd.C (Kd.int .u8) w A0 s0.length s0) (hc0 : s0.length ≤ c0) (hG : ErrT w) (hby : ByteL s0) (hlen : s0.length < 1000000000)
    (a1 a2 a3 n5 n8 : Int) (q1 q2 q3 q4 q5 q6 q7 q8 q9 : St) (sc : List S123) (gl : List Rf) (ll : List (List S68)) (el : List En)
    (e1 : numQ 1099511627776 s0 q0 = (a1, q1)) (e2 : numQ 1099511627776 s0 q1 = (a2, q2)) (e3 : numQ 1099511627776 s0 q2 = (a3, q3)) (e4 : schQ s0 q3 = (sc, q4)) (e5 : numQ 1099511627776 s0 q4 = (n5, q5)) (e6 : grpsQ s0 sc n5.toNat [] q5 = (gl, q6)) (e7 : takeRowsQ s0 sc q6 = (ll, q7)) (e8 : numQ 1099511627776 s0 q7 = (n8, q8)) (e9 : entsQ s0 n8.toNat [] q8 = (el, q9))
    (hsc : sc.length ≤ 1000000) (hel : q9.2.1 = 0 → el.length ≤ 1000000) (rg5 : 0 ≤ n5 ∧ n5 ≤ 1099511627777) (rg8 : 0 ≤ n8 ∧ n8 ≤ 1099511627777) :
    Calls Tryz.prog 54 #[.slice A0 s0.length c0] w fun e w' => ∃ m As cs Ag cg Al cl Ae ce ev, e = .returned (.tuple #[.agg (mnCells m As cs Ag cg Al cl Ae ce), ev]) ∧ ReadA w w' s0 m As cs Ag cg Al cl Ae ce ev (endQ s0 q9 = 0 ∧ checkP ⟨a1, a2, sc, a3, gl, ll, el⟩ = 0) ∧ ((endQ s0 q9 = 0 ∧ checkP ⟨a1, a2, sc, a3, gl, ll, el⟩ = 0) → m = ⟨a1, a2, sc, a3, gl, ll, el⟩) := by
  have HR0 := Aside0.mk hr0
  have HC0 := Aside0.mk hc0
  have HG := Aside0.mk hG
  have HBY := Aside0.mk hby
  have E1 := Aside0.mk e1
  have E2 := Aside0.mk e2
  have E3 := Aside0.mk e3
  have E4 := Aside0.mk e4
  have E5 := Aside0.mk e5
  have E6 := Aside0.mk e6
  have E7 := Aside0.mk e7
  have E8 := Aside0.mk e8
  have E9 := Aside0.mk e9
  have HSC := Aside0.mk hsc
  have HEL := Aside0.mk hel
  obtain ⟨N5, rfl⟩ := Int.eq_ofNat_of_zero_le rg5.1
  obtain ⟨N8, rfl⟩ := Int.eq_ofNat_of_zero_le rg8.1
  have hN5 : N5 ≤ 1099511627777 := by omega
  have hN8 : N8 ≤ 1099511627777 := by omega
  rw [Int.toNat_natCast] at E6 E9
  clear hr0 hc0 hG hby e1 e2 e3 e4 e5 e6 e7 e8 e9 hsc hel rg5 rg8
  obtain ⟨good, hgood⟩ : ∃ p : Prop, p = (endQ s0 q9 = 0 ∧ checkP ⟨a1, a2, sc, a3, gl, ll, el⟩ = 0) := ⟨_, rfl⟩
  rw [← hgood]
  have HGOOD := Aside0.mk hgood
  clear hgood
  go_enter Tryz.func54, Tryz.ntmps54
  go_wp2_with fail
  have hm0 : (w.alloc (.cells (MC 0 0 nilS 0 nilS nilS nilS) 27)).heap[w.heap.size]? = some (.cells (MC 0 0 nilS 0 nilS nilS nilS) 27 (0, 0)) := heap_alloc_new w _
  have hb0 : Below w.heap.size w (w.alloc (.cells (MC 0 0 nilS 0 nilS nilS nilS) 27)) := below_alloc (Below.refl _ _) _
  have HM0 := Aside0.mk hm0
  have HB0 := Aside0.mk hb0
  have HR1 := Aside0.mk (Kd.C_below HR0.out hb0)
  clear hm0 hb0
  generalize w.alloc (.cells (MC 0 0 nilS 0 nilS nilS nilS) 27) = W0 at *
  refine (rd_new A0 c0 s0 W0 HR1.out HC0.out (by omega)).mono ?_
  rintro e W1 ⟨g, w1, rfl, hrd, h1, h2⟩
  have hal : Below W1.heap.size W1 (W1.alloc (.cells #[.pointer (some ⟨g, 0, none⟩)] 146)).drew := below_drew (below_alloc (Below.refl _ _) _)
  have hW1 : Below W0.heap.size W0 W1 := h1.trans (h2.mono h1.size)
  have hmlt : w.heap.size < W0.heap.size := blk_lt HM0.out
  have hglt := hrd.lt
  have hgge : w1.heap.size ≤ g := by obtain ⟨A, c, ev, k1, k2, k3, k4, k5⟩ := hrd; exact k2
  have hg0 := HG.out.lt
  have HM2 : Aside0 (Mr w (W1.alloc (.cells #[.pointer (some ⟨g, 0, none⟩)] 146)).drew g w.heap.size W1.heap.size s0 q0 (MC 0 0 nilS 0 nilS nilS nilS)) := Aside0.mk ⟨⟨w1, ⟨hrd.below hal, below_then h2 h2.size hal, HG.out.of_below (HB0.out.trans (h1.mono HB0.out.size)), ⟨HBY.out, hlen, Int.le_refl 0, Int.natCast_nonneg _⟩⟩, Nat.lt_of_lt_of_le hmlt h1.size, by omega⟩,
    (hal.block _ (Nat.lt_of_lt_of_le hmlt hW1.size)).trans ((hW1.block _ hmlt).trans HM0.out), heap_alloc_new W1 _, (HB0.out.trans (hW1.mono HB0.out.size)).trans (hal.mono (Nat.le_trans HB0.out.size hW1.size)), Nat.le_refl _, by have := h1.size; omega, hglt, MC_nb _ _ _ _ _ _ _ _ _ _ _ _ _ _ _⟩
  clear hal hW1 hmlt hglt hgge h1 h2 hrd HM0 HB0 HR1 hg0 HR0 HC0 HG HBY
  go_wp2_with fail
  generalize W1.heap.size = rb at *
  refine start_ (n := 12) (S := fun w' => w'.cell? ⟨rb, 0, none⟩ = some (.pointer (some ⟨g, 0, none⟩))) (ds := []) #[false, false, false, false, false, false, false, false, false, false, false, false] (by kernel_rfl) rfl rfl (HM2.out.rcell) (fun hHeld => ?_)
  generalize (W1.alloc (.cells #[.pointer (some ⟨g, 0, none⟩)] 146)).drew = w2 at *
  refine take_ (i := 0) (N := some 15) (v := ?_) (a' := ?_) #[true, false, false, false, false, false, false, false, false, false, false, false] rfl rfl (by kernel_rfl) (fun _ _ _ h => h) (Or.inl ⟨by rfl, ?_⟩) hHeld ?_ ?_
  rotate_left
  · intro w' s0
    go_simp
    with_reducible rfl
  rotate_left
  · simp only [Act.put, List.setIfInBounds_toArray, List.set_cons_zero, List.set_cons_succ, i64_w, i32_w]
    rfl
  refine take_ (i := 2) (N := some 17) (v := ?_) (a' := ?_) #[true, false, true, false, false, false, false, false, false, false, false, false] rfl rfl (by kernel_rfl) (fun _ _ _ h => h) (Or.inl ⟨by rfl, ?_⟩) hHeld ?_ ?_
  rotate_left
  · intro w' s0
    go_simp
    with_reducible rfl
  rotate_left
  · simp only [Act.put, List.setIfInBounds_toArray, List.set_cons_zero, List.set_cons_succ, i64_w, i32_w]
    rfl
  refine take_ (i := 4) (N := some 19) (v := ?_) (a' := ?_) #[true, false, true, false, true, false, false, false, false, false, false, false] rfl rfl (by kernel_rfl) (fun _ _ _ h => h) (Or.inl ⟨by rfl, ?_⟩) hHeld ?_ ?_
  rotate_left
  · intro w' s0
    go_simp
    with_reducible rfl
  rotate_left
  · simp only [Act.put, List.setIfInBounds_toArray, List.set_cons_zero, List.set_cons_succ, i64_w, i32_w]
    rfl
  refine one_ (i := 1) (N := some 16) #[true, true, true, false, true, false, false, false, false, false, false, false] rfl rfl (by kernel_rfl) (by decide) (fun K hK => ?_)
  refine goes_ Tryz.func90 (by kernel_rfl) rfl #[.pointer (some ⟨g, 0, none⟩)] (by rfl) rfl rfl (by simp only [List.map_toArray, List.map_cons, List.map_nil]; rfl) ?_
  with_reducible refine (mNumber HM2.out E1.out).mono ?_
  rintro e w3 ⟨rfl, hm, hk⟩
  refine ⟨_, rfl, ?_⟩
  have HM3 := Aside0.mk hm
  clear hm hk
  refine hK.out _ _ (HM3.out.rcell) (fun hHeld => ?_)
  clear hK K
  refine norm_ (a' := ?_) ?_ ?_
  rotate_left
  · show Act.put _ (some 16) _ = _
    simp only [Act.put, List.setIfInBounds_toArray, List.set_cons_zero, List.set_cons_succ, i64_w, i32_w]
    rfl
  refine pure_ (i := 6) (N := some 21) (v := ?_) (a' := ?_) #[true, true, true, false, true, false, true, false, false, false, false, false] rfl rfl (by kernel_rfl) (fun _ _ _ h => h) (Or.inl ⟨by rfl, ?_⟩) ?_ ?_
  rotate_left
  · intro w'
    go_simp
    with_reducible rfl
  rotate_left
  · simp only [Act.put, List.setIfInBounds_toArray, List.set_cons_zero, List.set_cons_succ, i64_w, i32_w]
    rfl
  refine one_ (i := 3) (N := some 18) #[true, true, true, true, true, false, true, false, false, false, false, false] rfl rfl (by kernel_rfl) (by decide) (fun K hK => ?_)
  refine goes_ Tryz.func90 (by kernel_rfl) rfl #[.pointer (some ⟨g, 0, none⟩)] (by rfl) rfl rfl (by simp only [List.map_toArray, List.map_cons, List.map_nil]; rfl) ?_
  with_reducible refine (mNumber HM3.out E2.out).mono ?_
  rintro e w4 ⟨rfl, hm, hk⟩
  refine ⟨_, rfl, ?_⟩
  have HM4 := Aside0.mk hm
  clear hm hk
  refine hK.out _ _ (HM4.out.rcell) (fun hHeld => ?_)
  clear hK K
  refine norm_ (a' := ?_) ?_ ?_
  rotate_left
  · show Act.put _ (some 18) _ = _
    simp only [Act.put, List.setIfInBounds_toArray, List.set_cons_zero, List.set_cons_succ, i64_w, i32_w]
    rfl
  refine one_ (i := 5) (N := some 20) #[true, true, true, true, true, true, true, false, false, false, false, false] rfl rfl (by kernel_rfl) (by decide) (fun K hK => ?_)
  refine goes_ Tryz.func90 (by kernel_rfl) rfl #[.pointer (some ⟨g, 0, none⟩)] (by rfl) rfl rfl (by simp only [List.map_toArray, List.map_cons, List.map_nil]; rfl) ?_
  with_reducible refine (mNumber HM4.out E3.out).mono ?_
  rintro e w5 ⟨rfl, hm, hk⟩
  refine ⟨_, rfl, ?_⟩
  have HM5 := Aside0.mk hm
  have c6 : w5.cell? ⟨w.heap.size, 0, none⟩ = some (.int .i64 0) := HM5.out.mcell 0
  have f6 := HM5.out.mfree 0
  clear hm hk
  refine hK.out _ _ (HM5.out.rcell) (fun hHeld => ?_)
  clear hK K
  refine norm_ (a' := ?_) ?_ ?_
  rotate_left
  · show Act.put _ (some 20) _ = _
    simp only [Act.put, List.setIfInBounds_toArray, List.set_cons_zero, List.set_cons_succ, i64_w, i32_w]
    rfl
  refine one_ (i := 7) (N := none) #[true, true, true, true, true, true, true, true, false, false, false, false] rfl rfl (by kernel_rfl) (by decide) (fun K hK => ?_)
  refine skip_ (w1 := ?_) (by rfl) rfl ?_ ?_
  rotate_left
  · go_simp
    rfl
  have HM6 : Aside0 (Mr w (w5.setCell ⟨w.heap.size, 0, none⟩ (.int .i64 a1)) g w.heap.size rb s0 q3 (MC a1 0 nilS 0 nilS nilS nilS)) := Aside0.mk (HM5.out.store 0 (.int .i64 a1) (by intro x h; cases h))
  generalize w5.setCell ⟨w.heap.size, 0, none⟩ (.int .i64 a1) = w6 at *
  have c7 : w6.cell? ⟨w.heap.size, 1, none⟩ = some (.int .i64 0) := HM6.out.mcell 1
  have f7 := HM6.out.mfree 1
  refine hK.out _ _ (HM6.out.rcell) (fun hHeld => ?_)
  clear hK K
  refine pure_ (i := 8) (N := some 22) (v := ?_) (a' := ?_) #[true, true, true, true, true, true, true, true, true, false, false, false] rfl rfl (by kernel_rfl) (fun _ _ _ h => h) (Or.inl ⟨by rfl, ?_⟩) ?_ ?_
  rotate_left
  · intro w'
    go_simp
    with_reducible rfl
  rotate_left
  · simp only [Act.put, List.setIfInBounds_toArray, List.set_cons_zero, List.set_cons_succ, i64_w, i32_w]
    rfl
  refine one_ (i := 9) (N := none) #[true, true, true, true, true, true, true, true, true, true, false, false] rfl rfl (by kernel_rfl) (by decide) (fun K hK => ?_)
  refine skip_ (w1 := ?_) (by rfl) rfl ?_ ?_
  rotate_left
  · go_simp
    rfl
  have HM7 : Aside0 (Mr w (w6.setCell ⟨w.heap.size, 1, none⟩ (.int .i64 a2)) g w.heap.size rb s0 q3 (MC a1 a2 nilS 0 nilS nilS nilS)) := Aside0.mk (HM6.out.store 1 (.int .i64 a2) (by intro x h; cases h))
  generalize w6.setCell ⟨w.heap.size, 1, none⟩ (.int .i64 a2) = w7 at *
  have c8 : w7.cell? ⟨w.heap.size, 3, none⟩ = some (.int .i64 0) := HM7.out.mcell 3
  have f8 := HM7.out.mfree 3
  refine hK.out _ _ (HM7.out.rcell) (fun hHeld => ?_)
  clear hK K
  refine pure_ (i := 10) (N := some 23) (v := ?_) (a' := ?_) #[true, true, true, true, true, true, true, true, true, true, true, false] rfl rfl (by kernel_rfl) (fun _ _ _ h => h) (Or.inl ⟨by rfl, ?_⟩) ?_ ?_
  rotate_left
  · intro w'
    go_simp
    with_reducible rfl
  rotate_left
  · simp only [Act.put, List.setIfInBounds_toArray, List.set_cons_zero, List.set_cons_succ, i64_w, i32_w]
    rfl
  refine one_ (i := 11) (N := none) #[true, true, true, true, true, true, true, true, true, true, true, true] rfl rfl (by kernel_rfl) (by decide) (fun K hK => ?_)
  refine skip_ (w1 := ?_) (by rfl) rfl ?_ ?_
  rotate_left
  · go_simp
    rfl
  have HM8 : Aside0 (Mr w (w7.setCell ⟨w.heap.size, 3, none⟩ (.int .i64 a3)) g w.heap.size rb s0 q3 (MC a1 a2 nilS a3 nilS nilS nilS)) := Aside0.mk (HM7.out.store 3 (.int .i64 a3) (by intro x h; cases h))
  generalize w7.setCell ⟨w.heap.size, 3, none⟩ (.int .i64 a3) = w8 at *
  clear c6 f6 c7 f7 c8 f8
  refine hK.out _ _ (HM8.out.rcell) (fun hHeld => ?_)
  clear hK K
  refine done_ (by kernel_rfl) ?_
  have hrb := HM8.out.rcell
  go_wp2_with fail
  refine (mSchema HM8.out E4.out).mono ?_
  rintro e w9 ⟨As, cs, rfl, hs, hm, hk⟩
  have HM9 := Aside0.mk hm
  have HS9 := Aside0.mk hs
  have c10 : w9.cell? ⟨w.heap.size, 2, none⟩ = some nilS := HM9.out.mcell 2
  have f10 := HM9.out.mfree 2
  have hrb := HM9.out.rcell
  clear hm hk hs
  have HMa : Aside0 (Mr w (w9.setCell ⟨w.heap.size, 2, none⟩ (.slice As sc.length cs)) g w.heap.size rb s0 q4 (MC a1 a2 (.slice As sc.length cs) a3 nilS nilS nilS)) := Aside0.mk (HM9.out.store 2 (.slice As sc.length cs) (by intro x h; cases h))
  have HSa := Aside0.mk (R_store HS9.out HM9.out (by decide) 2 (.slice As sc.length cs))
  have hrba := HMa.out.rcell
  go_wp2_with fail
  generalize w9.setCell ⟨w.heap.size, 2, none⟩ (.slice As sc.length cs) = wa at *
  refine (mNumber HMa.out E5.out).mono ?_
  rintro e wb ⟨rfl, hm, hk⟩
  have HMb := Aside0.mk hm
  have HSb := Aside0.mk (R_past HSa.out (Nat.lt_succ_self g) hk)
  clear hm hk c10 f10 hrb hrba
  go_wp2_with fail
  clear HM2 HM3 HM4 HM5 HM6 HM7 HM8 HM9 HMa HSa HS9
  go_loopw [6] (fun v6 w' => ∃ (k : Nat) (l : List Rf) (q' : St) (Ag : Option Addr) (cg : Nat), v6 = .int .i64 k ∧ l.length + k ≤ N5 ∧ Aside0 (Mr w w' g w.heap.size rb s0 q' (MC a1 a2 (.slice As sc.length cs) a3 (.slice Ag l.length cg) nilS nilS)) ∧ Aside0 (Kd.R k123 123 w' (g + 1) (fun _ => True) (.slice As sc.length cs) sc) ∧ Aside0 (Kd.R kRf 66 w' (g + 1) (fun _ => True) (.slice Ag l.length cg) l) ∧ Aside0 (grpsQ s0 sc k l q' = (gl, q6))) (fun v _ => (intOf v).toNat)
  case atStart => exact ⟨N5, [], q5, none, 0, rfl, by simp, HMb, HSb, ⟨Kd.R_nil _ _ _ _ _⟩, E6⟩
  case round =>
    obtain ⟨k, l, q', Ag, cg, rfl, hkN, HMr, HSr, HGr, HQ⟩ := hrel
    by_cases hk0 : k = 0
    · subst hk0
      have e := HQ.out
      rw [grpsQ] at e
      have e1 := (Prod.mk.inj e).1
      have e2 := (Prod.mk.inj e).2
      rw [e2] at HMr
      rw [e1] at HMr HGr
      clear e e1 e2 HQ
      have hrb := HMr.out.rcell
      have c2 : wr.cell? ⟨w.heap.size, 2, none⟩ = some (.slice As sc.length cs) := HMr.out.mcell 2
      go_wp2_with fail
      refine (mRows HMr.out HSr.out HSC.out E7.out).mono ?_
      rintro e w1 ⟨Al, cl, rfl, hl, hm, hk⟩
      have HM1 := Aside0.mk hm
      have HS1 := Aside0.mk (R_past HSr.out (Nat.lt_succ_self g) hk)
      have HG1 := Aside0.mk (R_past HGr.out (Nat.lt_succ_self g) hk)
      have HL1 := Aside0.mk hl
      clear hm hk hl hrb c2
      have c5 : w1.cell? ⟨w.heap.size, 5, none⟩ = some nilS := HM1.out.mcell 5
      have f5 := HM1.out.mfree 5
      have HM2 : Aside0 (Mr w (w1.setCell ⟨w.heap.size, 5, none⟩ (.slice Al ll.length cl)) g w.heap.size rb s0 q7 (MC a1 a2 (.slice As sc.length cs) a3 (.slice Ag gl.length cg) (.slice Al ll.length cl) nilS)) := Aside0.mk (HM1.out.store 5 (.slice Al ll.length cl) (by intro x h; cases h))
      have HS2 := Aside0.mk (R_store HS1.out HM1.out (by decide) 5 (.slice Al ll.length cl))
      have HG2 := Aside0.mk (R_store HG1.out HM1.out (by decide) 5 (.slice Al ll.length cl))
      have HL2 := Aside0.mk (R_store HL1.out HM1.out (by decide) 5 (.slice Al ll.length cl))
      have hrb2 := HM2.out.rcell
      go_wp2_with fail
      generalize w1.setCell ⟨w.heap.size, 5, none⟩ (.slice Al ll.length cl) = w2 at *
      refine (mNumber HM2.out E8.out).mono ?_
      rintro e w3 ⟨rfl, hm, hk⟩
      have HM3 := Aside0.mk hm
      have HS3 := Aside0.mk (R_past HS2.out (Nat.lt_succ_self g) hk)
      have HG3 := Aside0.mk (R_past HG2.out (Nat.lt_succ_self g) hk)
      have HL3 := Aside0.mk (R_past HL2.out (Nat.lt_succ_self g) hk)
      clear hm hk c5 f5 hrb2 HM1 HS1 HG1 HL1 HM2 HS2 HG2 HL2
      go_wp2_with fail
      go_loopw [8] (fun v8 w' => ∃ (k : Nat) (l : List En) (q' : St) (Ae : Option Addr) (ce : Nat), v8 = .int .i64 k ∧ l.length + k ≤ N8 ∧ Aside0 (Mr w w' g w.heap.size rb s0 q' (MC a1 a2 (.slice As sc.length cs) a3 (.slice Ag gl.length cg) (.slice Al ll.length cl) (.slice Ae l.length ce))) ∧ Aside0 (Kd.R k123 123 w' (g + 1) (fun _ => True) (.slice As sc.length cs) sc) ∧ Aside0 (Kd.R kRf 66 w' (g + 1) (fun _ => True) (.slice Ag gl.length cg) gl) ∧ Aside0 (Kd.R (Kd.slice 68 k68) 89 w' (g + 1) (fun _ => True) (.slice Al ll.length cl) ll) ∧ Aside0 (Kd.R kEn 81 w' (g + 1) (fun _ => True) (.slice Ae l.length ce) l) ∧ Aside0 (entsQ s0 k l q' = (el, q9))) (fun v _ => (intOf v).toNat)
      case atStart => exact ⟨N8, [], q8, none, 0, rfl, by simp, HM3, HS3, HG3, HL3, ⟨Kd.R_nil _ _ _ _ _⟩, E9⟩
      case round =>
        obtain ⟨k, l, q', Ae, ce, rfl, hkN, HMr, HSr, HGr, HLr, HEr, HQ⟩ := hrel
        by_cases hk0 : k = 0
        · subst hk0
          have e := HQ.out
          rw [entsQ] at e
          have e1 := (Prod.mk.inj e).1
          have e2 := (Prod.mk.inj e).2
          rw [e2] at HMr
          rw [e1] at HMr HEr
          clear e e1 e2 HQ
          have hrb := HMr.out.rcell
          go_wp2_with fail
          refine (mEnd HMr.out).mono ?_
          rintro e wE ⟨⟨p, rfl⟩, hb⟩
          have HME := Aside0.mk (HMr.out.below hb)
          have HSE := Aside0.mk (Kd.R_below HSr.out hb)
          have HGE := Aside0.mk (Kd.R_below HGr.out hb)
          have HLE := Aside0.mk (Kd.R_below HLr.out hb)
          have HEE := Aside0.mk (Kd.R_below HEr.out hb)
          clear hb hrb
          by_cases hE : endQ s0 q9 = 0
          · have hne : (endQ s0 q9 != 0) = false := by simpa using hE
            have hq9 := HEL.out (endQ_zero hE)
            have HQE := Aside0.mk hE
            have HMN := Aside0.mk (show MnC wE ⟨a1, a2, sc, a3, gl, ll, el⟩ As cs Ag cg Al cl Ae ce from mnc_of (m := ⟨a1, a2, sc, a3, gl, ll, el⟩) HSE.out HGE.out HLE.out HEE.out (fun _ _ _ => rfl))
            have hck := check_calls ⟨a1, a2, sc, a3, gl, ll, el⟩ As cs Ag cg Al cl Ae ce wE HMN.out (by have := HSC.out; show sc.length < _; omega) hq9
            obtain ⟨ck, hckk⟩ : ∃ ck, ck = checkP ⟨a1, a2, sc, a3, gl, ll, el⟩ := ⟨_, rfl⟩
            rw [← hckk] at HGOOD hck
            have HCK := Aside0.mk hck
            have HCQ := Aside0.mk hckk
            clear hE hq9 hck hckk
            go_wp2_with (refine wpList_load_row rfl 27 (.tmp 2) rfl w.heap.size rfl 27 (MC a1 a2 (.slice As sc.length cs) a3 (.slice Ag gl.length cg) (.slice Al ll.length cl) (.slice Ae el.length ce)) (0, 0) _ HME.out.mbk Tryz.underlying27 rfl (by kernel_rfl) ?_)
            refine HCK.out.mono ?_
            rintro e wF ⟨rfl, hb⟩
            have HMF := Aside0.mk (HME.out.below hb)
            have HSF := Aside0.mk (Kd.R_below HSE.out hb)
            have HGF := Aside0.mk (Kd.R_below HGE.out hb)
            have HLF := Aside0.mk (Kd.R_below HLE.out hb)
            have HEF := Aside0.mk (Kd.R_below HEE.out hb)
            clear hb HCK HMN
            by_cases hC : ck = 0
            · have hcb : (ck != 0) = false := by simpa using hC
              have HCZ := Aside0.mk hC
              clear hC
              go_wp2_with (first | (refine wpList_load_row rfl 27 (.tmp 2) rfl w.heap.size rfl 27 (MC a1 a2 (.slice As sc.length cs) a3 (.slice Ag gl.length cg) (.slice Al ll.length cl) (.slice Ae el.length ce)) (0, 0) _ HMF.out.mbk Tryz.underlying27 rfl (by kernel_rfl) ?_) | (refine wpList_store_row rfl 27 (.tmp 2) (.tmp 94) rfl w.heap.size (MC a1 a2 (.slice As sc.length cs) a3 (.slice Ag gl.length cg) (.slice Al ll.length cl) (.slice Ae el.length ce)) rfl rfl 27 (MC a1 a2 (.slice As sc.length cs) a3 (.slice Ag gl.length cg) (.slice Al ll.length cl) (.slice Ae el.length ce)) HMF.out.mbk (by kernel_rfl) rfl (by kernel_rfl) ?_))
              rw [setRow_self wF w.heap.size _ _ _ HMF.out.mbk]
              refine bodyPost_ret (v := .tuple #[.agg (MC a1 a2 (.slice As sc.length cs) a3 (.slice Ag gl.length cg) (.slice Al ll.length cl) (.slice Ae el.length ce)), .nilIface]) (results_cr_tmp (p := 2) (u := 3) rfl _ _ w.heap.size 27 (MC a1 a2 (.slice As sc.length cs) a3 (.slice Ag gl.length cg) (.slice Al ll.length cl) (.slice Ae el.length ce)) (0, 0) _ rfl HMF.out.mbk Tryz.underlying27 rfl (by kernel_rfl)) rfl ?_
              exact ⟨⟨a1, a2, sc, a3, gl, ll, el⟩, As, cs, Ag, cg, Al, cl, Ae, ce, _, rfl, ⟨fun W hW => mnc_of (m := ⟨a1, a2, sc, a3, gl, ll, el⟩) HSF.out HGF.out HLF.out HEF.out (fun k hk hl => hW k (by have := HMF.out.mw; have := HMF.out.mg; omega) hl), HMF.out.bel, fun _ => rfl, fun h => absurd (HGOOD.out.symm ▸ ⟨HQE.out, HCZ.out⟩) h⟩, fun _ => rfl⟩
            · have hcb : (ck != 0) = true := by simpa using hC
              have HCZ := Aside0.mk hC
              clear hC
              go_wp2_with (first | (refine wpList_load_row rfl 27 (.tmp 2) rfl w.heap.size rfl 27 (MC a1 a2 (.slice As sc.length cs) a3 (.slice Ag gl.length cg) (.slice Al ll.length cl) (.slice Ae el.length ce)) (0, 0) _ HMF.out.mbk Tryz.underlying27 rfl (by kernel_rfl) ?_) | (refine wpList_store_row rfl 27 (.tmp 2) (.tmp 90) rfl w.heap.size (MC a1 a2 (.slice As sc.length cs) a3 (.slice Ag gl.length cg) (.slice Al ll.length cl) (.slice Ae el.length ce)) rfl rfl 27 (MC a1 a2 (.slice As sc.length cs) a3 (.slice Ag gl.length cg) (.slice Al ll.length cl) (.slice Ae el.length ce)) HMF.out.mbk (by kernel_rfl) rfl (by kernel_rfl) ?_))
              rw [setRow_self wF w.heap.size _ _ _ HMF.out.mbk]
              refine bodyPost_ret (v := .tuple #[.agg (MC a1 a2 (.slice As sc.length cs) a3 (.slice Ag gl.length cg) (.slice Al ll.length cl) (.slice Ae el.length ce)), .iface 156 (.agg #[.int .i64 ck])]) (results_cr_tmp (p := 2) (u := 3) rfl _ _ w.heap.size 27 (MC a1 a2 (.slice As sc.length cs) a3 (.slice Ag gl.length cg) (.slice Al ll.length cl) (.slice Ae el.length ce)) (0, 0) _ rfl HMF.out.mbk Tryz.underlying27 rfl (by kernel_rfl)) rfl ?_
              exact ⟨⟨a1, a2, sc, a3, gl, ll, el⟩, As, cs, Ag, cg, Al, cl, Ae, ce, _, rfl, ⟨fun W hW => mnc_of (m := ⟨a1, a2, sc, a3, gl, ll, el⟩) HSF.out HGF.out HLF.out HEF.out (fun k hk hl => hW k (by have := HMF.out.mw; have := HMF.out.mg; omega) hl), HMF.out.bel, fun h => absurd (HGOOD.out ▸ h).2 HCZ.out, fun _ => ⟨ck, rfl⟩⟩, fun _ => rfl⟩
          · have HNE := Aside0.mk hE
            have HNG := Aside0.mk (show ¬ (endQ s0 q9 = 0 ∧ checkP ⟨a1, a2, sc, a3, gl, ll, el⟩ = 0) from fun h => HNE.out h.1)
            have hne : (endQ s0 q9 != 0) = true := by simpa using hE
            clear hE
            generalize endQ s0 q9 = eE at *
            go_wp2_with (first | (refine wpList_load_row rfl 27 (.tmp 2) rfl w.heap.size rfl 27 (MC a1 a2 (.slice As sc.length cs) a3 (.slice Ag gl.length cg) (.slice Al ll.length cl) (.slice Ae el.length ce)) (0, 0) _ HME.out.mbk Tryz.underlying27 rfl (by kernel_rfl) ?_) | (refine wpList_store_row rfl 27 (.tmp 2) (.tmp 82) rfl w.heap.size (MC a1 a2 (.slice As sc.length cs) a3 (.slice Ag gl.length cg) (.slice Al ll.length cl) (.slice Ae el.length ce)) rfl rfl 27 (MC a1 a2 (.slice As sc.length cs) a3 (.slice Ag gl.length cg) (.slice Al ll.length cl) (.slice Ae el.length ce)) HME.out.mbk (by kernel_rfl) rfl (by kernel_rfl) ?_))
            rw [setRow_self wE w.heap.size _ _ _ HME.out.mbk]
            refine bodyPost_ret (v := .tuple #[.agg (MC a1 a2 (.slice As sc.length cs) a3 (.slice Ag gl.length cg) (.slice Al ll.length cl) (.slice Ae el.length ce)), .iface 156 (.agg #[.int .i64 eE])]) (results_cr_tmp (p := 2) (u := 3) rfl _ _ w.heap.size 27 (MC a1 a2 (.slice As sc.length cs) a3 (.slice Ag gl.length cg) (.slice Al ll.length cl) (.slice Ae el.length ce)) (0, 0) _ rfl HME.out.mbk Tryz.underlying27 rfl (by kernel_rfl)) rfl ?_
            exact ⟨⟨a1, a2, sc, a3, gl, ll, el⟩, As, cs, Ag, cg, Al, cl, Ae, ce, _, rfl, ⟨fun W hW => mnc_of (m := ⟨a1, a2, sc, a3, gl, ll, el⟩) HSE.out HGE.out HLE.out HEE.out (fun k hk hl => hW k (by have := HME.out.mw; have := HME.out.mg; omega) hl), HME.out.bel, fun h => absurd (HGOOD.out ▸ h) HNG.out, fun _ => ⟨eE, rfl⟩⟩, fun _ => rfl⟩
        · obtain ⟨j, rfl⟩ : ∃ j, k = j + 1 := ⟨k - 1, by omega⟩
          clear hk0
          have hkp : 0 < ((j + 1 : Nat) : Int) := by omega
          go_wp2_with fail
          refine (mGood HMr.out).mono ?_
          rintro e wc ⟨rfl, hb⟩
          have HMc := Aside0.mk (HMr.out.below hb)
          have HSc := Aside0.mk (Kd.R_below HSr.out hb)
          have HGc := Aside0.mk (Kd.R_below HGr.out hb)
          have HLc := Aside0.mk (Kd.R_below HLr.out hb)
          have HEc := Aside0.mk (Kd.R_below HEr.out hb)
          clear hb HMr HSr HGr HLr HEr
          by_cases hz : q'.2.1 = 0
          · have hg : (q'.2.1 == 0) = true := by simpa using hz
            have hst : entsQ s0 j (l ++ [(entQ s0 q').1]) (entQ s0 q').2 = (el, q9) := by rw [← HQ.out, entsQ, if_pos hz]
            have hi1 := entQ_len HMc.out.inn
            obtain ⟨x, qc, ee⟩ : ∃ a b, entQ s0 q' = (a, b) := ⟨_, _, rfl⟩
            rw [ee] at hi1
            obtain ⟨x, n, y⟩ := x
            dsimp only at hi1
            obtain ⟨f, rfl⟩ : ∃ f, x = HL f := ⟨_, range_fn x hi1.1⟩
            obtain ⟨h, rfl⟩ : ∃ h, y = HL h := ⟨_, range_fn y hi1.2⟩
            simp only [ee] at hst
            have EE := Aside0.mk ee
            have HST := Aside0.mk hst
            have HL8 := Aside0.mk (show l.length + 2 ≤ 1099511627779 by omega)
            clear ee hst hi1 hz HQ
            have hbd : Below wc.heap.size wc wc.drew := below_drew (Below.refl _ _)
            have HMd : Aside0 (Mr w wc.drew g w.heap.size rb s0 q' _) := Aside0.mk (HMc.out.below hbd)
            have HSd : Aside0 (Kd.R k123 123 wc.drew (g + 1) _ _ sc) := Aside0.mk (Kd.R_below HSc.out hbd)
            have HGd : Aside0 (Kd.R kRf 66 wc.drew (g + 1) _ _ gl) := Aside0.mk (Kd.R_below HGc.out hbd)
            have HLd : Aside0 (Kd.R (Kd.slice 68 k68) 89 wc.drew (g + 1) _ _ ll) := Aside0.mk (Kd.R_below HLc.out hbd)
            have HEd : Aside0 (Kd.R kEn 81 wc.drew (g + 1) _ _ l) := Aside0.mk (Kd.R_below HEc.out hbd)
            clear hbd
            go_wp2_with fail
            refine start_ (n := 8) (S := fun w' => w'.cell? ⟨rb, 0, none⟩ = some (.pointer (some ⟨g, 0, none⟩)) ∧ w'.cell? ⟨w.heap.size, 6, none⟩ = some (.slice Ae l.length ce)) (ds := [7]) #[false, false, false, false, false, false, false, false] (by kernel_rfl) rfl rfl ⟨HMd.out.rcell, HMd.out.mcell 6⟩ (fun hHeld => ?_)
            generalize wc.drew = wd at *
            refine pure_ (i := 0) (N := some 68) (v := ?_) (a' := ?_) #[true, false, false, false, false, false, false, false] rfl rfl (by kernel_rfl) (fun _ _ _ h => h) (Or.inl ⟨by rfl, ?_⟩) ?_ ?_
            rotate_left
            · intro w'
              go_simp
              with_reducible rfl
            rotate_left
            · simp only [Act.put, List.setIfInBounds_toArray, List.set_cons_zero, List.set_cons_succ, i64_w, i32_w]
              rfl
            refine take_ (i := 1) (N := some 69) (v := ?_) (a' := ?_) #[true, true, false, false, false, false, false, false] rfl rfl (by kernel_rfl) (fun _ _ _ h => h) (Or.inl ⟨by rfl, ?_⟩) hHeld ?_ ?_
            rotate_left
            · rintro w' ⟨s0, s1⟩
              go_simp
              with_reducible rfl
            rotate_left
            · simp only [Act.put, List.setIfInBounds_toArray, List.set_cons_zero, List.set_cons_succ, i64_w, i32_w]
              rfl
            refine take_ (i := 2) (N := some 70) (v := ?_) (a' := ?_) #[true, true, true, false, false, false, false, false] rfl rfl (by kernel_rfl) (fun _ _ _ h => h) (Or.inl ⟨by rfl, ?_⟩) hHeld ?_ ?_
            rotate_left
            · rintro w' ⟨s0, s1⟩
              go_simp
              with_reducible rfl
            rotate_left
            · simp only [Act.put, List.setIfInBounds_toArray, List.set_cons_zero, List.set_cons_succ, i64_w, i32_w]
              rfl
            refine one_ (i := 3) (N := some 71) #[true, true, true, true, false, false, false, false] rfl rfl (by kernel_rfl) (by decide) (fun K hK => ?_)
            refine goes_ Tryz.func95 (by kernel_rfl) rfl #[.pointer (some ⟨g, 0, none⟩)] (by rfl) rfl rfl (by simp only [List.map_toArray, List.map_cons, List.map_nil]; rfl) ?_
            with_reducible refine (mEnt HMd.out EE.out).mono ?_
            rintro e we ⟨rfl, hm, hk⟩
            refine ⟨_, rfl, ?_⟩
            have HMe := Aside0.mk hm
            have HSe := Aside0.mk (R_past HSd.out (Nat.lt_succ_self g) hk)
            have HGe := Aside0.mk (R_past HGd.out (Nat.lt_succ_self g) hk)
            have HLe := Aside0.mk (R_past HLd.out (Nat.lt_succ_self g) hk)
            have HEe := Aside0.mk (R_past HEd.out (Nat.lt_succ_self g) hk)
            clear hm hk
            refine hK.out _ _ ⟨HMe.out.rcell, HMe.out.mcell 6⟩ (fun hHeld => ?_)
            clear hK K
            refine norm_ (a' := ?_) ?_ ?_
            rotate_left
            · show Act.put _ (some 71) _ = _
              simp only [Act.put, List.setIfInBounds_toArray, List.set_cons_zero, List.set_cons_succ, i64_w, i32_w]
              rfl
            refine one_ (i := 4) (N := some 72) #[true, true, true, true, true, false, false, false] rfl rfl (by kernel_rfl) (by decide) (fun K hK => ?_)
            refine value_ (w1 := ?_) (v := ?_) (by rfl) rfl ?_ ?_
            rotate_left 2
            · show _ = Result.ok (Next.value (Value.slice (some ⟨we.heap.size, 0, none⟩) 1 1)) (we.alloc (.cells (enCells (⟨HL f, n, HL h⟩ : En)).toArray 81))
              kernel_rfl
            have HBA := Aside0.mk (show Below we.heap.size we (we.alloc (.cells (enCells (⟨HL f, n, HL h⟩ : En)).toArray 81)) from below_alloc (Below.refl _ _) _)
            refine hK.out _ _ ⟨pw_cell_below HBA.out HMe.out.rcell, pw_cell_below HBA.out (HMe.out.mcell 6)⟩ (fun hHeld => ?_)
            clear hK K
            refine norm_ (a' := ?_) ?_ ?_
            rotate_left
            · show Act.put _ (some 72) _ = _
              simp only [Act.put, List.setIfInBounds_toArray, List.set_cons_zero, List.set_cons_succ, i64_w, i32_w]
              rfl
            refine one_ (i := 5) (N := some 73) #[true, true, true, true, true, true, false, false] rfl rfl (by kernel_rfl) (by decide) (fun K hK => ?_)
            refine Kd.R_append_step kEn (w0 := we) (g + 1) (by rfl) (.tmp 69) (.tmp 72) 25 81 (.agg Tryz.zeroCells81) 72 rfl Tryz.underlying25 (by kernel_rfl) (by kernel_rfl) (by decide) (by decide) (.slice Ae l.length ce) l (⟨HL f, n, HL h⟩ : En) (enCells (⟨HL f, n, HL h⟩ : En)) (fun _ => True) (fun _ => False) rfl rfl (kEn_M (HL_len f) (HL_len h)) (fun _ h => h.elim) (fun _ _ => trivial) HEe.out (Below.refl _ _) HMe.out.lt (by have := HL8.out; omega) ?_
            intro vf wf ho _ hg2 _
            obtain ⟨Af, cf, ef⟩ := Kd.R_slice ho
            obtain ⟨n9, hn9⟩ : ∃ n9, n9 = (l ++ [(⟨HL f, n, HL h⟩ : En)]).length := ⟨_, rfl⟩
            rw [← hn9] at ef
            subst ef
            have HN9 := Aside0.mk hn9
            have HEf := Aside0.mk ho
            have HMf := Aside0.mk (HMe.out.grown HEe.out (by decide) (by decide) (by decide) hg2)
            have HSf := Aside0.mk (Kd.R_over HSe.out HEe.out (by decide) hg2)
            have HGf := Aside0.mk (Kd.R_over HGe.out HEe.out (by decide) hg2)
            have HLf := Aside0.mk (Kd.R_over HLe.out HEe.out (by decide) hg2)
            have c6 : wf.cell? ⟨w.heap.size, 6, none⟩ = some (.slice Ae l.length ce) := HMf.out.mcell 6
            have f6 := HMf.out.mfree 6
            clear ho hg2 hn9
            refine hK.out _ _ ⟨HMf.out.rcell, HMf.out.mcell 6⟩ (fun hHeld => ?_)
            clear hK K
            refine norm_ (a' := ?_) ?_ ?_
            rotate_left
            · show Act.put _ (some 73) _ = _
              simp only [Act.put, List.setIfInBounds_toArray, List.set_cons_zero, List.set_cons_succ, i64_w, i32_w]
              rfl
            refine pure_ (i := 6) (N := some 74) (v := ?_) (a' := ?_) #[true, true, true, true, true, true, true, false] rfl rfl (by kernel_rfl) (fun _ _ _ h => h) (Or.inl ⟨by rfl, ?_⟩) ?_ ?_
            rotate_left
            · intro w'
              go_simp
              with_reducible rfl
            rotate_left
            · simp only [Act.put, List.setIfInBounds_toArray, List.set_cons_zero, List.set_cons_succ, i64_w, i32_w]
              rfl
            refine last_ (i := 7) (N := none) #[true, true, true, true, true, true, true, true] rfl rfl (by kernel_rfl) (by decide) (fun K hK => ?_)
            refine skip_ (w1 := ?_) (by rfl) rfl ?_ ?_
            rotate_left
            · go_simp
              rfl
            refine hK.out _ _ ?_
            clear hK K
            refine done_ (by kernel_rfl) ?_
            have HMl : Aside0 (Mr w (wf.setCell ⟨w.heap.size, 6, none⟩ (.slice Af n9 cf)) g w.heap.size rb s0 qc (MC a1 a2 (.slice As sc.length cs) a3 (.slice Ag gl.length cg) (.slice Al ll.length cl) (.slice Af n9 cf))) := Aside0.mk (HMf.out.store 6 (.slice Af n9 cf) (by intro x h; cases h))
            have HSl := Aside0.mk (R_store HSf.out HMf.out (by decide) 6 (.slice Af n9 cf))
            have HGl := Aside0.mk (R_store HGf.out HMf.out (by decide) 6 (.slice Af n9 cf))
            have HLl := Aside0.mk (R_store HLf.out HMf.out (by decide) 6 (.slice Af n9 cf))
            have HEl := Aside0.mk (R_store HEf.out HMf.out (by decide) 6 (.slice Af n9 cf))
            generalize wf.setCell ⟨w.heap.size, 6, none⟩ (.slice Af n9 cf) = wl at *
            obtain rfl := HN9.out
            go_wp2
            go_roundw
            case rel => exact ⟨j, _, qc, Af, cf, by go_num, by rw [List.length_append, List.length_singleton]; omega, HMl, HSl, HGl, HLl, HEl, HST⟩
            case measure => simp [intOf]
          · have hg : (q'.2.1 == 0) = false := beq_eq_false_iff_ne.2 hz
            have e := HQ.out
            rw [entsQ_err hz] at e
            have e1 := (Prod.mk.inj e).1
            have e2 := (Prod.mk.inj e).2
            rw [e2] at HMc hz
            rw [e1] at HMc HEc
            have HNE := Aside0.mk (endQ_err (s0 := s0) hz)
            clear e e1 e2 HQ hz
            have hrb := HMc.out.rcell
            go_wp2_with fail
            refine (mEnd HMc.out).mono ?_
            rintro e wE ⟨⟨p, rfl⟩, hb⟩
            have HME := Aside0.mk (HMc.out.below hb)
            have HSE := Aside0.mk (Kd.R_below HSc.out hb)
            have HGE := Aside0.mk (Kd.R_below HGc.out hb)
            have HLE := Aside0.mk (Kd.R_below HLc.out hb)
            have HEE := Aside0.mk (Kd.R_below HEc.out hb)
            have HNG := Aside0.mk (show ¬ (endQ s0 q9 = 0 ∧ checkP ⟨a1, a2, sc, a3, gl, ll, el⟩ = 0) from fun h => HNE.out h.1)
            have hne : (endQ s0 q9 != 0) = true := by simpa using HNE.out
            clear hb hrb
            generalize endQ s0 q9 = eE at *
            go_wp2_with (first | (refine wpList_load_row rfl 27 (.tmp 2) rfl w.heap.size rfl 27 (MC a1 a2 (.slice As sc.length cs) a3 (.slice Ag gl.length cg) (.slice Al ll.length cl) (.slice Ae el.length ce)) (0, 0) _ HME.out.mbk Tryz.underlying27 rfl (by kernel_rfl) ?_) | (refine wpList_store_row rfl 27 (.tmp 2) (.tmp 82) rfl w.heap.size (MC a1 a2 (.slice As sc.length cs) a3 (.slice Ag gl.length cg) (.slice Al ll.length cl) (.slice Ae el.length ce)) rfl rfl 27 (MC a1 a2 (.slice As sc.length cs) a3 (.slice Ag gl.length cg) (.slice Al ll.length cl) (.slice Ae el.length ce)) HME.out.mbk (by kernel_rfl) rfl (by kernel_rfl) ?_))
            rw [setRow_self wE w.heap.size _ _ _ HME.out.mbk]
            refine bodyPost_ret (v := .tuple #[.agg (MC a1 a2 (.slice As sc.length cs) a3 (.slice Ag gl.length cg) (.slice Al ll.length cl) (.slice Ae el.length ce)), .iface 156 (.agg #[.int .i64 eE])]) (results_cr_tmp (p := 2) (u := 3) rfl _ _ w.heap.size 27 (MC a1 a2 (.slice As sc.length cs) a3 (.slice Ag gl.length cg) (.slice Al ll.length cl) (.slice Ae el.length ce)) (0, 0) _ rfl HME.out.mbk Tryz.underlying27 rfl (by kernel_rfl)) rfl ?_
            exact ⟨⟨a1, a2, sc, a3, gl, ll, el⟩, As, cs, Ag, cg, Al, cl, Ae, ce, _, rfl, ⟨fun W hW => mnc_of (m := ⟨a1, a2, sc, a3, gl, ll, el⟩) HSE.out HGE.out HLE.out HEE.out (fun k hk hl => hW k (by have := HME.out.mw; have := HME.out.mg; omega) hl), HME.out.bel, fun h => absurd (HGOOD.out ▸ h) HNG.out, fun _ => ⟨eE, rfl⟩⟩, fun _ => rfl⟩
    · obtain ⟨j, rfl⟩ : ∃ j, k = j + 1 := ⟨k - 1, by omega⟩
      clear hk0
      have hkp : 0 < ((j + 1 : Nat) : Int) := by omega
      go_wp2_with fail
      refine (mGood HMr.out).mono ?_
      rintro e wc ⟨rfl, hb⟩
      have HMc := Aside0.mk (HMr.out.below hb)
      have HSc := Aside0.mk (Kd.R_below HSr.out hb)
      have HGc0 := Aside0.mk (Kd.R_below HGr.out hb)
      clear hb HMr HSr HGr
      by_cases hz : q'.2.1 = 0
      · have hg : (q'.2.1 == 0) = true := by simpa using hz
        have hst : grpsQ s0 sc j (l ++ [(grpQ s0 sc q').1]) (grpQ s0 sc q').2 = (gl, q6) := by rw [← HQ.out, grpsQ, if_pos hz]
        unfold grpQ at hst
        have hi1 := HMc.out.inn
        obtain ⟨x1, qa, ea⟩ : ∃ a b, numQ 1099511627776 s0 q' = (a, b) := ⟨_, _, rfl⟩
        have hi2 := numQ_in (lim := 1099511627776) hi1
        rw [ea] at hi2
        obtain ⟨hd, qb, eb⟩ : ∃ a b, headQ s0 sc qa = (a, b) := ⟨_, _, rfl⟩
        have hdd := headQ_dead (s := sc) hi2
        rw [eb] at hdd
        obtain ⟨x, y, dd, cols⟩ := hd
        dsimp only at hdd
        obtain ⟨f, rfl⟩ : ∃ f, dd = HL f := ⟨_, range_fn dd hdd⟩
        obtain ⟨dl, qc, ec⟩ : ∃ a b, blobQ s0 65536 qb = (a, b) := ⟨_, _, rfl⟩
        simp only [ea, eb, ec] at hst
        have EA := Aside0.mk ea
        have EB := Aside0.mk eb
        have EC := Aside0.mk ec
        have HST := Aside0.mk hst
        clear ea eb ec hst hi1 hi2 hdd hz HQ
        obtain ⟨B, hB⟩ : ∃ B, B = wc.heap.size := ⟨_, rfl⟩
        have HGc := Aside0.mk (Kd.R_mono (ok' := fun k => k < B) (Kd.R_bound HGc0.out) (fun k hk => by rw [hB]; exact hk.2.2.1))
        have HBG := Aside0.mk (show g + 1 ≤ B by have := HMc.out.lt; omega)
        have hbd : Below wc.heap.size wc wc.drew := below_drew (Below.refl _ _)
        have HMd : Aside0 (Mr w wc.drew g w.heap.size rb s0 q' _) := Aside0.mk (HMc.out.below hbd)
        have HSd : Aside0 (Kd.R k123 123 wc.drew (g + 1) _ _ sc) := Aside0.mk (Kd.R_below HSc.out hbd)
        have HGd : Aside0 (Kd.R kRf 66 wc.drew (g + 1) _ _ l) := Aside0.mk (Kd.R_below HGc.out hbd)
        have HBd : Aside0 (B ≤ wc.drew.heap.size) := Aside0.mk (Nat.le_of_eq hB)
        clear hbd hB HGc0
        go_wp2_with fail
        refine start_ (n := 9) (S := fun w' => w'.cell? ⟨rb, 0, none⟩ = some (.pointer (some ⟨g, 0, none⟩)) ∧ w'.cell? ⟨w.heap.size, 2, none⟩ = some (.slice As sc.length cs)) (ds := []) #[false, false, false, false, false, false, false, false, false] (by kernel_rfl) rfl rfl ⟨HMd.out.rcell, HMd.out.mcell 2⟩ (fun hHeld => ?_)
        generalize wc.drew = wd at *
        refine pure_ (i := 3) (N := some 40) (v := ?_) (a' := ?_) #[false, false, false, true, false, false, false, false, false] rfl rfl (by kernel_rfl) (fun _ _ _ h => h) (Or.inl ⟨by rfl, ?_⟩) ?_ ?_
        rotate_left
        · intro w'
          go_simp
          with_reducible rfl
        rotate_left
        · simp only [Act.put, List.setIfInBounds_toArray, List.set_cons_zero, List.set_cons_succ, i64_w, i32_w]
          rfl
        refine take_ (i := 0) (N := some 37) (v := ?_) (a' := ?_) #[true, false, false, true, false, false, false, false, false] rfl rfl (by kernel_rfl) (fun _ _ _ h => h) (Or.inl ⟨by rfl, ?_⟩) hHeld ?_ ?_
        rotate_left
        · rintro w' ⟨s0, s1⟩
          go_simp
          with_reducible rfl
        rotate_left
        · simp only [Act.put, List.setIfInBounds_toArray, List.set_cons_zero, List.set_cons_succ, i64_w, i32_w]
          rfl
        refine take_ (i := 2) (N := some 39) (v := ?_) (a' := ?_) #[true, false, true, true, false, false, false, false, false] rfl rfl (by kernel_rfl) (fun _ _ _ h => h) (Or.inl ⟨by rfl, ?_⟩) hHeld ?_ ?_
        rotate_left
        · rintro w' ⟨s0, s1⟩
          go_simp
          with_reducible rfl
        rotate_left
        · simp only [Act.put, List.setIfInBounds_toArray, List.set_cons_zero, List.set_cons_succ, i64_w, i32_w]
          rfl
        refine take_ (i := 4) (N := some 41) (v := ?_) (a' := ?_) #[true, false, true, true, true, false, false, false, false] rfl rfl (by kernel_rfl) (fun _ _ _ h => h) (Or.inl ⟨by rfl, ?_⟩) hHeld ?_ ?_
        rotate_left
        · rintro w' ⟨s0, s1⟩
          go_simp
          with_reducible rfl
        rotate_left
        · simp only [Act.put, List.setIfInBounds_toArray, List.set_cons_zero, List.set_cons_succ, i64_w, i32_w]
          rfl
        refine join_ (σ := Nat × Option Addr × Nat) 1 #[true, true, true, true, true, true, true, true, false] (fun s => [(38, .int .i64 x1), (42, .agg (HC x y f s.2.1 cols.length s.2.2)), (7, .pointer (some ⟨s.1, 0, none⟩)), (43, .agg (RFL x1 x y f s.2.1 cols.length s.2.2 none 0 0).toArray)]) (fun s w' => Mr w w' g w.heap.size rb s0 qb (MC a1 a2 (.slice As sc.length cs) a3 (.slice Ag l.length cg) nilS nilS) ∧ Kd.R k123 123 w' (g + 1) (fun _ => True) (.slice As sc.length cs) sc ∧ Kd.R kRf 66 w' (g + 1) (fun k => k < B) (.slice Ag l.length cg) l ∧ Kd.R kCH 72 w' B (fun _ => True) (.slice s.2.1 cols.length s.2.2) cols ∧ B ≤ w'.heap.size ∧ w'.heap[s.1]? = some (.cells (RFL 0 0 0 (fun _ => 0) none 0 0 none 0 0).toArray 66 (0, 0)) ∧ B ≤ s.1 ∧ s.1 ≠ rb) ?_ ?_
        rotate_left
        · intro hCont
          refine two_ (i := 1) (j := 7) (Ni := some 38) (Nj := some 7) #[true, true, true, true, true, false, false, false, false] #[true, false, true, true, true, false, false, true, false] rfl rfl rfl rfl (by kernel_rfl) (by decide) (by decide) (fun K hK => ?_) (fun K hK => ?_)
          · skip
            refine goes_ Tryz.func90 (by kernel_rfl) rfl #[.pointer (some ⟨g, 0, none⟩)] (by rfl) rfl rfl (by simp only [List.map_toArray, List.map_cons, List.map_nil]; rfl) ?_
            with_reducible refine (mNumber HMd.out EA.out).mono ?_
            rintro e we ⟨rfl, hm, hk⟩
            refine ⟨_, rfl, ?_⟩
            have HMe := Aside0.mk hm
            have HSe := Aside0.mk (R_past HSd.out (Nat.lt_succ_self g) hk)
            have HGe := Aside0.mk (R_past HGd.out (Nat.lt_succ_self g) hk)
            have HBe := Aside0.mk (Nat.le_trans HBd.out hk.1)
            clear hm hk
            refine hK.out _ _ ⟨HMe.out.rcell, HMe.out.mcell 2⟩ (fun hHeld => ?_)
            clear hK K
            refine norm_ (a' := ?_) ?_ ?_
            rotate_left
            · show Act.put _ (some 38) _ = _
              simp only [Act.put, List.setIfInBounds_toArray, List.set_cons_zero, List.set_cons_succ, i64_w, i32_w]
              rfl
            refine two_ (i := 5) (j := 7) (Ni := some 42) (Nj := some 7) #[true, true, true, true, true, true, false, false, false] #[true, true, true, true, true, false, false, true, false] rfl rfl rfl rfl (by kernel_rfl) (by decide) (by decide) (fun K hK => ?_) (fun K hK => ?_)
            · skip
              refine goes_ Tryz.func92 (by kernel_rfl) rfl #[.pointer (some ⟨g, 0, none⟩), .slice As sc.length cs] (by rfl) rfl rfl (by simp only [List.map_toArray, List.map_cons, List.map_nil]; rfl) ?_
              with_reducible refine (mHead HMe.out HSe.out HSC.out EB.out).mono ?_
              rintro e wf ⟨A7, c7, rfl, hx, hm, hk⟩
              refine ⟨_, rfl, ?_⟩
              have HMf := Aside0.mk hm
              have HSf := Aside0.mk (R_past HSe.out (Nat.lt_succ_self g) hk)
              have HGf := Aside0.mk (R_past HGe.out (Nat.lt_succ_self g) hk)
              have HBf := Aside0.mk (Nat.le_trans HBe.out hk.1)
              have HXf := Aside0.mk (Kd.R_lower hx HBe.out)
              clear hm hk hx
              refine hK.out _ _ ⟨HMf.out.rcell, HMf.out.mcell 2⟩ (fun hHeld => ?_)
              clear hK K
              refine norm_ (a' := ?_) ?_ ?_
              rotate_left
              · show Act.put _ (some 42) _ = _
                simp only [Act.put, List.setIfInBounds_toArray, List.set_cons_zero, List.set_cons_succ, i64_w, i32_w]
                rfl
              refine pure_ (i := 6) (N := some 43) (v := ?_) (a' := ?_) #[true, true, true, true, true, true, true, false, false] rfl rfl (by kernel_rfl) (fun _ _ _ h => h) (Or.inl ⟨by rfl, ?_⟩) ?_ ?_
              rotate_left
              · intro w'
                show _ = Result.ok (Next.value (Value.agg (RFL x1 x y f A7 cols.length c7 none 0 0).toArray)) w'
                kernel_rfl
              rotate_left
              · simp only [Act.put, List.setIfInBounds_toArray, List.set_cons_zero, List.set_cons_succ, i64_w, i32_w]
                rfl
              refine one_ (i := 7) (N := some 7) #[true, true, true, true, true, true, true, true, false] rfl rfl (by kernel_rfl) (by decide) (fun K hK => ?_)
              refine value_ (w1 := ?_) (v := ?_) (by rfl) rfl ?_ ?_
              rotate_left 2
              · show _ = Result.ok (Next.value (Value.pointer (some ⟨wf.heap.size, 0, none⟩))) (wf.alloc (.cells (RFL 0 0 0 (fun _ => 0) none 0 0 none 0 0).toArray 66))
                kernel_rfl
              have hb : Below wf.heap.size wf (wf.alloc (.cells (RFL 0 0 0 (fun _ => 0) none 0 0 none 0 0).toArray 66)) := below_alloc (Below.refl _ _) _
              have HMg := Aside0.mk (HMf.out.below hb)
              have HSg := Aside0.mk (Kd.R_below HSf.out hb)
              have HGg := Aside0.mk (Kd.R_below HGf.out hb)
              have HBg := Aside0.mk (Nat.le_trans HBf.out hb.size)
              have HXg := Aside0.mk (Kd.R_below HXf.out hb)
              have HZg := Aside0.mk (heap_alloc_new wf (.cells (RFL 0 0 0 (fun _ => 0) none 0 0 none 0 0).toArray 66))
              have HGB := Aside0.mk (show B ≤ wf.heap.size from HBf.out)
              have HGR := Aside0.mk (show wf.heap.size ≠ rb from (by have := blk_lt HMf.out.rbk; omega))
              clear hb
              generalize wf.alloc (.cells (RFL 0 0 0 (fun _ => 0) none 0 0 none 0 0).toArray 66) = wg at *
              generalize wf.heap.size = gb at *
              refine hK.out _ _ ⟨HMg.out.rcell, HMg.out.mcell 2⟩ (fun hHeld => ?_)
              clear hK K
              refine norm_ (a' := ?_) ?_ ?_
              rotate_left
              · show Act.put _ (some 7) _ = _
                simp only [Act.put, List.setIfInBounds_toArray, List.set_cons_zero, List.set_cons_succ, i64_w, i32_w]
                rfl
              exact norm_ (by simp only [putAll, Act.put, List.setIfInBounds_toArray, List.set_cons_zero, List.set_cons_succ]) (hCont (gb, A7, c7) _ ⟨HMg.out, HSg.out, HGg.out, HXg.out, HBg.out, HZg.out, HGB.out, HGR.out⟩)
            · skip
              refine value_ (w1 := ?_) (v := ?_) (by rfl) rfl ?_ ?_
              rotate_left 2
              · show _ = Result.ok (Next.value (Value.pointer (some ⟨we.heap.size, 0, none⟩))) (we.alloc (.cells (RFL 0 0 0 (fun _ => 0) none 0 0 none 0 0).toArray 66))
                kernel_rfl
              have hb : Below we.heap.size we (we.alloc (.cells (RFL 0 0 0 (fun _ => 0) none 0 0 none 0 0).toArray 66)) := below_alloc (Below.refl _ _) _
              have HMf := Aside0.mk (HMe.out.below hb)
              have HSf := Aside0.mk (Kd.R_below HSe.out hb)
              have HGf := Aside0.mk (Kd.R_below HGe.out hb)
              have HBf := Aside0.mk (Nat.le_trans HBe.out hb.size)
              have HZf := Aside0.mk (heap_alloc_new we (.cells (RFL 0 0 0 (fun _ => 0) none 0 0 none 0 0).toArray 66))
              have HGB := Aside0.mk (show B ≤ we.heap.size from HBe.out)
              have HGR := Aside0.mk (show we.heap.size ≠ rb from (by have := blk_lt HMe.out.rbk; omega))
              clear hb
              generalize we.alloc (.cells (RFL 0 0 0 (fun _ => 0) none 0 0 none 0 0).toArray 66) = wf at *
              generalize we.heap.size = gb at *
              refine hK.out _ _ ⟨HMf.out.rcell, HMf.out.mcell 2⟩ (fun hHeld => ?_)
              clear hK K
              refine norm_ (a' := ?_) ?_ ?_
              rotate_left
              · show Act.put _ (some 7) _ = _
                simp only [Act.put, List.setIfInBounds_toArray, List.set_cons_zero, List.set_cons_succ, i64_w, i32_w]
                rfl
              refine one_ (i := 5) (N := some 42) #[true, true, true, true, true, true, false, true, false] rfl rfl (by kernel_rfl) (by decide) (fun K hK => ?_)
              refine goes_ Tryz.func92 (by kernel_rfl) rfl #[.pointer (some ⟨g, 0, none⟩), .slice As sc.length cs] (by rfl) rfl rfl (by simp only [List.map_toArray, List.map_cons, List.map_nil]; rfl) ?_
              with_reducible refine (mHead HMf.out HSf.out HSC.out EB.out).mono ?_
              rintro e wg ⟨A7, c7, rfl, hx, hm, hk⟩
              refine ⟨_, rfl, ?_⟩
              have HMg := Aside0.mk hm
              have HSg := Aside0.mk (R_past HSf.out (Nat.lt_succ_self g) hk)
              have HGg := Aside0.mk (R_past HGf.out (Nat.lt_succ_self g) hk)
              have HBg := Aside0.mk (Nat.le_trans HBf.out hk.1)
              have HZg := Aside0.mk (KeepBut.at_ hk HZf.out (by have := HBG.out; have := HGB.out; omega))
              have HXg := Aside0.mk (Kd.R_lower hx HBf.out)
              clear hm hk hx
              refine hK.out _ _ ⟨HMg.out.rcell, HMg.out.mcell 2⟩ (fun hHeld => ?_)
              clear hK K
              refine norm_ (a' := ?_) ?_ ?_
              rotate_left
              · show Act.put _ (some 42) _ = _
                simp only [Act.put, List.setIfInBounds_toArray, List.set_cons_zero, List.set_cons_succ, i64_w, i32_w]
                rfl
              refine pure_ (i := 6) (N := some 43) (v := ?_) (a' := ?_) #[true, true, true, true, true, true, true, true, false] rfl rfl (by kernel_rfl) (fun _ _ _ h => h) (Or.inl ⟨by rfl, ?_⟩) ?_ ?_
              rotate_left
              · intro w'
                show _ = Result.ok (Next.value (Value.agg (RFL x1 x y f A7 cols.length c7 none 0 0).toArray)) w'
                kernel_rfl
              rotate_left
              · simp only [Act.put, List.setIfInBounds_toArray, List.set_cons_zero, List.set_cons_succ, i64_w, i32_w]
                rfl
              exact norm_ (by simp only [putAll, Act.put, List.setIfInBounds_toArray, List.set_cons_zero, List.set_cons_succ]) (hCont (gb, A7, c7) _ ⟨HMg.out, HSg.out, HGg.out, HXg.out, HBg.out, HZg.out, HGB.out, HGR.out⟩)
          · skip
            refine value_ (w1 := ?_) (v := ?_) (by rfl) rfl ?_ ?_
            rotate_left 2
            · show _ = Result.ok (Next.value (Value.pointer (some ⟨wd.heap.size, 0, none⟩))) (wd.alloc (.cells (RFL 0 0 0 (fun _ => 0) none 0 0 none 0 0).toArray 66))
              kernel_rfl
            have hb : Below wd.heap.size wd (wd.alloc (.cells (RFL 0 0 0 (fun _ => 0) none 0 0 none 0 0).toArray 66)) := below_alloc (Below.refl _ _) _
            have HMe := Aside0.mk (HMd.out.below hb)
            have HSe := Aside0.mk (Kd.R_below HSd.out hb)
            have HGe := Aside0.mk (Kd.R_below HGd.out hb)
            have HBe := Aside0.mk (Nat.le_trans HBd.out hb.size)
            have HZe := Aside0.mk (heap_alloc_new wd (.cells (RFL 0 0 0 (fun _ => 0) none 0 0 none 0 0).toArray 66))
            have HGB := Aside0.mk (show B ≤ wd.heap.size from HBd.out)
            have HGR := Aside0.mk (show wd.heap.size ≠ rb from (by have := blk_lt HMd.out.rbk; omega))
            clear hb
            generalize wd.alloc (.cells (RFL 0 0 0 (fun _ => 0) none 0 0 none 0 0).toArray 66) = we at *
            generalize wd.heap.size = gb at *
            refine hK.out _ _ ⟨HMe.out.rcell, HMe.out.mcell 2⟩ (fun hHeld => ?_)
            clear hK K
            refine norm_ (a' := ?_) ?_ ?_
            rotate_left
            · show Act.put _ (some 7) _ = _
              simp only [Act.put, List.setIfInBounds_toArray, List.set_cons_zero, List.set_cons_succ, i64_w, i32_w]
              rfl
            refine one_ (i := 1) (N := some 38) #[true, true, true, true, true, false, false, true, false] rfl rfl (by kernel_rfl) (by decide) (fun K hK => ?_)
            refine goes_ Tryz.func90 (by kernel_rfl) rfl #[.pointer (some ⟨g, 0, none⟩)] (by rfl) rfl rfl (by simp only [List.map_toArray, List.map_cons, List.map_nil]; rfl) ?_
            with_reducible refine (mNumber HMe.out EA.out).mono ?_
            rintro e wf ⟨rfl, hm, hk⟩
            refine ⟨_, rfl, ?_⟩
            have HMf := Aside0.mk hm
            have HSf := Aside0.mk (R_past HSe.out (Nat.lt_succ_self g) hk)
            have HGf := Aside0.mk (R_past HGe.out (Nat.lt_succ_self g) hk)
            have HBf := Aside0.mk (Nat.le_trans HBe.out hk.1)
            have HZf := Aside0.mk (KeepBut.at_ hk HZe.out (by have := HBG.out; have := HGB.out; omega))
            clear hm hk
            refine hK.out _ _ ⟨HMf.out.rcell, HMf.out.mcell 2⟩ (fun hHeld => ?_)
            clear hK K
            refine norm_ (a' := ?_) ?_ ?_
            rotate_left
            · show Act.put _ (some 38) _ = _
              simp only [Act.put, List.setIfInBounds_toArray, List.set_cons_zero, List.set_cons_succ, i64_w, i32_w]
              rfl
            refine one_ (i := 5) (N := some 42) #[true, true, true, true, true, true, false, true, false] rfl rfl (by kernel_rfl) (by decide) (fun K hK => ?_)
            refine goes_ Tryz.func92 (by kernel_rfl) rfl #[.pointer (some ⟨g, 0, none⟩), .slice As sc.length cs] (by rfl) rfl rfl (by simp only [List.map_toArray, List.map_cons, List.map_nil]; rfl) ?_
            with_reducible refine (mHead HMf.out HSf.out HSC.out EB.out).mono ?_
            rintro e wg ⟨A7, c7, rfl, hx, hm, hk⟩
            refine ⟨_, rfl, ?_⟩
            have HMg := Aside0.mk hm
            have HSg := Aside0.mk (R_past HSf.out (Nat.lt_succ_self g) hk)
            have HGg := Aside0.mk (R_past HGf.out (Nat.lt_succ_self g) hk)
            have HBg := Aside0.mk (Nat.le_trans HBf.out hk.1)
            have HZg := Aside0.mk (KeepBut.at_ hk HZf.out (by have := HBG.out; have := HGB.out; omega))
            have HXg := Aside0.mk (Kd.R_lower hx HBf.out)
            clear hm hk hx
            refine hK.out _ _ ⟨HMg.out.rcell, HMg.out.mcell 2⟩ (fun hHeld => ?_)
            clear hK K
            refine norm_ (a' := ?_) ?_ ?_
            rotate_left
            · show Act.put _ (some 42) _ = _
              simp only [Act.put, List.setIfInBounds_toArray, List.set_cons_zero, List.set_cons_succ, i64_w, i32_w]
              rfl
            refine pure_ (i := 6) (N := some 43) (v := ?_) (a' := ?_) #[true, true, true, true, true, true, true, true, false] rfl rfl (by kernel_rfl) (fun _ _ _ h => h) (Or.inl ⟨by rfl, ?_⟩) ?_ ?_
            rotate_left
            · intro w'
              show _ = Result.ok (Next.value (Value.agg (RFL x1 x y f A7 cols.length c7 none 0 0).toArray)) w'
              kernel_rfl
            rotate_left
            · simp only [Act.put, List.setIfInBounds_toArray, List.set_cons_zero, List.set_cons_succ, i64_w, i32_w]
              rfl
            exact norm_ (by simp only [putAll, Act.put, List.setIfInBounds_toArray, List.set_cons_zero, List.set_cons_succ]) (hCont (gb, A7, c7) _ ⟨HMg.out, HSg.out, HGg.out, HXg.out, HBg.out, HZg.out, HGB.out, HGR.out⟩)
        rintro ⟨gb, A7, c7⟩ wp ⟨hm, hs, hg, hx, hB, hz, hgb, hgr⟩
        have HMp := Aside0.mk hm
        have HSp := Aside0.mk hs
        have HGp := Aside0.mk hg
        have HXp := Aside0.mk hx
        have HBp := Aside0.mk hB
        have HZp := Aside0.mk hz
        have HGB := Aside0.mk hgb
        have HGR := Aside0.mk hgr
        have hHeld : wp.cell? ⟨rb, 0, none⟩ = some (.pointer (some ⟨g, 0, none⟩)) ∧ wp.cell? ⟨w.heap.size, 2, none⟩ = some (.slice As sc.length cs) := ⟨hm.rcell, hm.mcell 2⟩
        clear hm hs hg hx hB hz hgb hgr
        refine norm_ (a' := ?_) ?_ ?_
        rotate_left
        · simp only [putAll, Act.put, List.setIfInBounds_toArray, List.set_cons_zero, List.set_cons_succ]
          rfl
        refine one_ (i := 8) (N := none) #[true, true, true, true, true, true, true, true, true] rfl rfl (by kernel_rfl) (by decide) (fun K hK => ?_)
        refine skip_ (w1 := ?_) (by rfl) rfl ?_ ?_
        rotate_left
        · refine exec_store_row 66 (.tmp 7) (.tmp 43) ?_ gb (RFL x1 x y f A7 cols.length c7 none 0 0).toArray ?_ ?_ 66 _ HZp.out ?_ ?_ ?_
          · rfl
          · rfl
          · rfl
          · rw [RFL_size]; kernel_rfl
          · rw [RFL_size, RFL_size]
          · exact RFL_all _ _ _ _ _ _ _ _ _ _
        have hgg : g < gb := by have := HBG.out; have := HGB.out; omega
        have HMh := Aside0.mk (HMp.out.setRow HZp.out (by decide) hgg HGR.out (RFL x1 x y f A7 cols.length c7 none 0 0).toArray)
        have HSh := Aside0.mk (R_setRow HSp.out HZp.out (by decide) (RFL x1 x y f A7 cols.length c7 none 0 0).toArray)
        have HXh := Aside0.mk (R_setRow HXp.out HZp.out (by decide) (RFL x1 x y f A7 cols.length c7 none 0 0).toArray)
        have HGh := Aside0.mk (Kd.R_step HGp.out (fun k hk _ => setRow_other wp gb k (RFL x1 x y f A7 cols.length c7 none 0 0).toArray (by have := HGB.out; omega)))
        have HBh : Aside0 (B ≤ (wp.setRow gb (RFL x1 x y f A7 cols.length c7 none 0 0).toArray).heap.size) := Aside0.mk (by rw [setRow_size]; exact HBp.out)
        have HZh := Aside0.mk (setRow_heap wp gb _ (RFL x1 x y f A7 cols.length c7 none 0 0).toArray _ _ HZp.out)
        clear hgg
        generalize wp.setRow gb (RFL x1 x y f A7 cols.length c7 none 0 0).toArray = wh at *
        refine hK.out _ _ ⟨HMh.out.rcell, HMh.out.mcell 2⟩ (fun hHeld => ?_)
        clear hK K
        refine done_ (by kernel_rfl) ?_
        have hrb := HMh.out.rcell
        go_wp2_with fail
        refine (mBlob HMh.out EC.out).mono ?_
        rintro e wi ⟨A8, c8, rfl, hx, hm, hk⟩
        have HMi := Aside0.mk hm
        have HSi := Aside0.mk (R_past HSh.out (Nat.lt_succ_self g) hk)
        have HGi := Aside0.mk (R_past HGh.out (Nat.lt_succ_self g) hk)
        have HXi := Aside0.mk (R_past HXh.out HBG.out hk)
        have HYi := Aside0.mk (Kd.R_lower hx HBh.out)
        have HZi := Aside0.mk (KeepBut.at_ hk HZh.out (by have := HBG.out; have := HGB.out; omega))
        have HBi := Aside0.mk (Nat.le_trans HBh.out hk.1)
        clear hm hk hx hrb
        have c36 : wi.cell? ⟨gb, 36, none⟩ = some nilS := (blk_cell HZi.out 36).trans (RFL_36 _ _ _ _ _ _ _ _ _ _)
        have f36 := blk_frozen HZi.out 36
        have hgg : g < gb := by have := HBG.out; have := HGB.out; omega
        have HMj := Aside0.mk (HMi.out.setCell HZi.out (by decide) hgg HGR.out 36 (.slice A8 dl.length c8))
        have HSj := Aside0.mk (Kd.R_set HSi.out HZi.out (by decide) 36 (.slice A8 dl.length c8))
        have HGj := Aside0.mk (Kd.R_far (p := ⟨gb, 36, none⟩) HGi.out (fun k hk => by show k ≠ gb; have := HGB.out; omega) (.slice A8 dl.length c8))
        have HXj := Aside0.mk (Kd.R_set HXi.out HZi.out (by decide) 36 (.slice A8 dl.length c8))
        have HYj := Aside0.mk (Kd.R_set HYi.out HZi.out (by decide) 36 (.slice A8 dl.length c8))
        have HZj : Aside0 ((wi.setCell ⟨gb, 36, none⟩ (.slice A8 dl.length c8)).heap[gb]? = some (.cells (RFL x1 x y f A7 cols.length c7 A8 dl.length c8).toArray 66 (0, 0))) := Aside0.mk (by rw [setCell_eq_setRow _ _ _ _ _ _ _ HZi.out]; exact (setRow_heap _ _ _ _ _ _ HZi.out).trans (by rw [RFL_set]))
        have HBj : Aside0 (g + 1 ≤ (wi.setCell ⟨gb, 36, none⟩ (.slice A8 dl.length c8)).heap.size) := Aside0.mk (HMj.out.lt)
        have c4 : (wi.setCell ⟨gb, 36, none⟩ (.slice A8 dl.length c8)).cell? ⟨w.heap.size, 4, none⟩ = some (.slice Ag l.length cg) := HMj.out.mcell 4
        have HGT := Aside0.mk (Kd.R_mono (ok' := fun _ => True) HGj.out (fun _ _ => trivial))
        have HNE := Aside0.mk (show ∀ k, B ≤ k → some k ≠ (Value.slice Ag l.length cg).ownBlock from fun k hk e => by have : k < B := HGj.out.1 k e.symm; omega)
        have HXB := Aside0.mk (Kd.R_lower (Kd.R_mono (ok' := fun k => B ≤ k) (Kd.R_bound HXj.out) (fun _ hk => hk.2.1)) HBG.out)
        have HYB := Aside0.mk (Kd.R_lower (Kd.R_mono (ok' := fun k => B ≤ k) (Kd.R_bound HYj.out) (fun _ hk => hk.2.1)) HBG.out)
        have HL5 := Aside0.mk (show l.length + 2 ≤ 1099511627779 by omega)
        clear hgg
        go_wp2_with (first | (refine wpList_load_row rfl 66 (.tmp 7) rfl gb rfl 66 (RFL x1 x y f A7 cols.length c7 A8 dl.length c8).toArray (0, 0) _ HZj.out Tryz.underlying66 rfl (by rw [RFL_size]; kernel_rfl) ?_) | (refine wpList_build rfl 23 1 #[(0, .tmp 49)] rfl (.slice (some ⟨(wi.setCell ⟨gb, 36, none⟩ (.slice A8 dl.length c8)).heap.size, 0, none⟩) 1 1) ((wi.setCell ⟨gb, 36, none⟩ (.slice A8 dl.length c8)).alloc (.cells (RFL x1 x y f A7 cols.length c7 A8 dl.length c8).toArray 66)) (by kernel_rfl) ?_) | ((with_reducible refine gate_builtin (b := .append) (xs := #[.tmp 48, .tmp 50]) rfl ?_); at_builtin; generalize wi.setCell ⟨gb, 36, none⟩ (.slice A8 dl.length c8) = wj at *; refine Kd.R_append kRf (w0 := wj) (g + 1) rfl (.tmp 48) (.tmp 50) 23 66 (.agg (RFL 0 0 0 (fun _ => 0) none 0 0 none 0 0).toArray) 104 rfl Tryz.underlying23 (by kernel_rfl) (by kernel_rfl) (by decide) (by decide) (.slice Ag l.length cg) l ⟨x1, ⟨x, y, HL f, cols⟩, dl⟩ (RFL x1 x y f A7 cols.length c7 A8 dl.length c8) (fun _ => True) (fun k => B ≤ k) rfl rfl (kRf_M HXB.out HYB.out) (fun k hk => ⟨trivial, HNE.out k hk⟩) (fun _ _ => trivial) HGT.out (Below.refl _ _) HBj.out (by have := HL5.out; omega) ?_; intro vk wk ho hb2 hg2 _; obtain ⟨Ak, ck, ek⟩ := Kd.R_slice ho; obtain ⟨n9, hn9⟩ : ∃ n9, n9 = (l ++ [(⟨x1, ⟨x, y, HL f, cols⟩, dl⟩ : Rf)]).length := ⟨_, rfl⟩; rw [← hn9] at ek; subst ek; have HN9 := Aside0.mk hn9; have HGk := Aside0.mk ho; have HMk := Aside0.mk (HMj.out.grown HGT.out (by decide) (by decide) (by decide) hg2); have HSk := Aside0.mk (Kd.R_over HSj.out HGT.out (by decide) hg2); have c5 : wk.cell? ⟨w.heap.size, 4, none⟩ = some (.slice Ag l.length cg) := HMk.out.mcell 4; have f5 := HMk.out.mfree 4; clear ho hb2 hg2 hn9))
        have HMl : Aside0 (Mr w (wk.setCell ⟨w.heap.size, 4, none⟩ (.slice Ak n9 ck)) g w.heap.size rb s0 qc (MC a1 a2 (.slice As sc.length cs) a3 (.slice Ak n9 ck) nilS nilS)) := Aside0.mk (HMk.out.store 4 (.slice Ak n9 ck) (by intro x h; cases h))
        have HSl := Aside0.mk (R_store HSk.out HMk.out (by decide) 4 (.slice Ak n9 ck))
        have HGl := Aside0.mk (R_store HGk.out HMk.out (by decide) 4 (.slice Ak n9 ck))
        generalize wk.setCell ⟨w.heap.size, 4, none⟩ (.slice Ak n9 ck) = wl at *
        obtain rfl := HN9.out
        go_roundw
        case rel => exact ⟨j, _, qc, Ak, ck, by go_num, by rw [List.length_append, List.length_singleton]; omega, HMl, HSl, HGl, HST⟩
        case measure => simp [intOf]
      · have hg : (q'.2.1 == 0) = false := beq_eq_false_iff_ne.2 hz
        have e := HQ.out
        rw [grpsQ_err hz] at e
        have e1 := (Prod.mk.inj e).1
        have e2 := (Prod.mk.inj e).2
        rw [e2] at HMc hz
        rw [e1] at HMc HGc0
        have HZ6 := Aside0.mk hz
        clear e e1 e2 HQ hz
        have z1 := takeRowsQ_err (s0 := s0) (s := sc) HZ6.out
        rw [E7.out] at z1
        have z2 := (Prod.mk.inj z1).2
        have z3 := numQ_err (s0 := s0) (lim := 1099511627776) (by decide) HZ6.out
        rw [← z2, E8.out] at z3
        have z4 : (N8 : Int) = 0 := (Prod.mk.inj z3).1
        have z5 := (Prod.mk.inj z3).2
        have z6 : N8 = 0 := by omega
        subst z6
        have z7 := E9.out
        rw [entsQ] at z7
        have z8 := (Prod.mk.inj z7).1
        have z9 := (Prod.mk.inj z7).2
        have HNE := Aside0.mk (endQ_err (s0 := s0) (q := q9) (by rw [← z9, z5, z2]; exact HZ6.out))
        have HQ9 := Aside0.mk (z9)
        have HE9 := Aside0.mk (z8)
        clear z1 z2 z3 z4 z5 z7 z8 z9
        have HGc := HGc0
        have hrb := HMc.out.rcell
        have c2 : wc.cell? ⟨w.heap.size, 2, none⟩ = some (.slice As sc.length cs) := HMc.out.mcell 2
        go_wp2_with fail
        refine (mRows HMc.out HSc.out HSC.out E7.out).mono ?_
        rintro e w1 ⟨Al, cl, rfl, hl, hm, hk⟩
        have HM1 := Aside0.mk hm
        have HS1 := Aside0.mk (R_past HSc.out (Nat.lt_succ_self g) hk)
        have HG1 := Aside0.mk (R_past HGc.out (Nat.lt_succ_self g) hk)
        have HL1 := Aside0.mk hl
        clear hm hk hl hrb c2
        have c5 : w1.cell? ⟨w.heap.size, 5, none⟩ = some nilS := HM1.out.mcell 5
        have f5 := HM1.out.mfree 5
        have HM2 : Aside0 (Mr w (w1.setCell ⟨w.heap.size, 5, none⟩ (.slice Al ll.length cl)) g w.heap.size rb s0 q7 (MC a1 a2 (.slice As sc.length cs) a3 (.slice Ag gl.length cg) (.slice Al ll.length cl) nilS)) := Aside0.mk (HM1.out.store 5 (.slice Al ll.length cl) (by intro x h; cases h))
        have HS2 := Aside0.mk (R_store HS1.out HM1.out (by decide) 5 (.slice Al ll.length cl))
        have HG2 := Aside0.mk (R_store HG1.out HM1.out (by decide) 5 (.slice Al ll.length cl))
        have HL2 := Aside0.mk (R_store HL1.out HM1.out (by decide) 5 (.slice Al ll.length cl))
        have hrb2 := HM2.out.rcell
        go_wp2_with fail
        generalize w1.setCell ⟨w.heap.size, 5, none⟩ (.slice Al ll.length cl) = w2 at *
        refine (mNumber HM2.out E8.out).mono ?_
        rintro e w3 ⟨rfl, hm, hk⟩
        have HM3 := Aside0.mk hm
        have HS3 := Aside0.mk (R_past HS2.out (Nat.lt_succ_self g) hk)
        have HG3 := Aside0.mk (R_past HG2.out (Nat.lt_succ_self g) hk)
        have HL3 := Aside0.mk (R_past HL2.out (Nat.lt_succ_self g) hk)
        clear hm hk c5 f5 hrb2 HM1 HS1 HG1 HL1 HM2 HS2 HG2 HL2
        go_wp2_with fail
        have HM4 := HM3
        rw [HQ9.out] at HM4
        have HS4 := HS3
        have HG4 := HG3
        have HL4 := HL3
        have HE4 : Aside0 (Kd.R kEn 81 w3 (g + 1) (fun _ => True) (.slice none ([] : List En).length 0) []) := ⟨Kd.R_nil _ _ _ _ _⟩
        have he9 := HE9.out
        subst he9
        refine wp_loop_rounds 1 ?_
        rw [rounds_succ]
        have hrb := HM4.out.rcell
        go_wp2_with fail
        refine (mEnd HM4.out).mono ?_
        rintro e wE ⟨⟨p, rfl⟩, hb⟩
        have HME := Aside0.mk (HM4.out.below hb)
        have HSE := Aside0.mk (Kd.R_below HS4.out hb)
        have HGE := Aside0.mk (Kd.R_below HG4.out hb)
        have HLE := Aside0.mk (Kd.R_below HL4.out hb)
        have HEE := Aside0.mk (Kd.R_below HE4.out hb)
        have HNG := Aside0.mk (show ¬ (endQ s0 q9 = 0 ∧ checkP ⟨a1, a2, sc, a3, gl, ll, ([] : List En)⟩ = 0) from fun h => HNE.out h.1)
        have hne : (endQ s0 q9 != 0) = true := by simpa using HNE.out
        clear hb hrb
        generalize endQ s0 q9 = eE at *
        go_wp2_with (first | (refine wpList_load_row rfl 27 (.tmp 2) rfl w.heap.size rfl 27 (MC a1 a2 (.slice As sc.length cs) a3 (.slice Ag gl.length cg) (.slice Al ll.length cl) nilS) (0, 0) _ HME.out.mbk Tryz.underlying27 rfl (by kernel_rfl) ?_) | (refine wpList_store_row rfl 27 (.tmp 2) (.tmp 82) rfl w.heap.size (MC a1 a2 (.slice As sc.length cs) a3 (.slice Ag gl.length cg) (.slice Al ll.length cl) nilS) rfl rfl 27 (MC a1 a2 (.slice As sc.length cs) a3 (.slice Ag gl.length cg) (.slice Al ll.length cl) nilS) HME.out.mbk (by kernel_rfl) rfl (by kernel_rfl) ?_))
        rw [setRow_self wE w.heap.size _ _ _ HME.out.mbk]
        refine bodyPost_ret (v := .tuple #[.agg (MC a1 a2 (.slice As sc.length cs) a3 (.slice Ag gl.length cg) (.slice Al ll.length cl) nilS), .iface 156 (.agg #[.int .i64 eE])]) (results_cr_tmp (p := 2) (u := 3) rfl _ _ w.heap.size 27 (MC a1 a2 (.slice As sc.length cs) a3 (.slice Ag gl.length cg) (.slice Al ll.length cl) nilS) (0, 0) _ rfl HME.out.mbk Tryz.underlying27 rfl (by kernel_rfl)) rfl ?_
        exact ⟨⟨a1, a2, sc, a3, gl, ll, ([] : List En)⟩, As, cs, Ag, cg, Al, cl, none, 0, _, rfl, ⟨fun W hW => mnc_of (m := ⟨a1, a2, sc, a3, gl, ll, ([] : List En)⟩) HSE.out HGE.out HLE.out HEE.out (fun k hk hl => hW k (by have := HME.out.mw; have := HME.out.mg; omega) hl), HME.out.bel, fun h => absurd (HGOOD.out ▸ h) HNG.out, fun _ => ⟨eE, rfl⟩⟩, fun h => absurd (HGOOD.out ▸ h) HNG.out⟩
end Go.Proofs.YtjmhiklmlgbifaaGreatDoor.PMan
end

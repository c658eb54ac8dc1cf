/- Texts, put into one. -/
import Derived.Test.YtjmhiklmlgbifaaGreatDoorPT35
import Derived.Test.YtjmhiklmlgbifaaGreatDoorPT38
import Derived.Test.YtjmhiklmlgbifaaGreatDoorPTW
set_option linter.unusedVariables false
set_option linter.unusedSimpArgs false
open Go Go.RowKit Go.Proofs.YtjmhiklmlgbifaaGreatDoorW.PrintWords Go.Proofs.YtjmhiklmlgbifaaGreatDoorW.PrintLast Go.Proofs.YtjmhiklmlgbifaaGreatDoorW.PrintMore
namespace Go.Proofs.YtjmhiklmlgbifaaGreatDoor.PMan
section
attribute [local go_sem] max2_int min2_int max_two min_two
abbrev EF (f : Nat → Int) (n : Int) (h : Nat → Int) : Array Value := ET (HL f) n (HL h)
theorem EF_size (f : Nat → Int) (n : Int) (h : Nat → Int) : (EF f n h).size = 65 := ET_size _ _ _ (HL_len f) (HL_len h)
theorem EF_zero : Tryz.zeroCells81 = EF (fun _ => 0) 0 (fun _ => 0) := by kernel_rfl
theorem EF_hash (f : Nat → Int) (n : Int) (h : Nat → Int) : ((EF f n (fun _ => 0)).toList.take 33 ++ (hashCells (HL h)).toArray.toList ++ (EF f n (fun _ => 0)).toList.drop (33 + (hashCells (HL h)).toArray.size)).toArray = EF f n h := by kernel_rfl
theorem EF_32 (f : Nat → Int) (n : Int) (h : Nat → Int) : (EF f n h)[32]? = some (.int .i64 n) := ET_32 _ _ _ (HL_len f)
theorem EF_set (f : Nat → Int) (n m : Int) (h : Nat → Int) : (EF f n h).setIfInBounds 32 (.int .i64 m) = EF f m h := ET_set _ _ _ _ (HL_len f)
theorem wpList_build' {P : Program} {ops : Array Oper} {rest : List Oper} {o : Oper} {a : Act} {w : World} {Q : Exit → Act → World → Prop} (hgd : o.guard = none) (t : TypeId) (xs : Array (Nat × Operand)) (ho : o.op = .build t xs) (v : Value) (he : ∀ w : World, (execOp a.eval o).run P w = .ok (.value v) w)
  (h : wpList P ops Q rest (a.put o.dst v) w) : wpList P ops Q (o :: rest) a w :=
 wpList_plain hgd fun K hK => by
  unfold Oper.wp
  rw [he]
  exact hK _ _ h
set_option maxHeartbeats 8000000 in
set_option maxRecDepth 100000 in
theorem rEnt (w0 w : World) (g : Nat) (s0 : List Int) (q : St) (h : Rr w0 w g s0 q) :
  Calls Tryz.prog 62 #[.pointer (some ⟨g, 0, none⟩)] w fun e w' => e = .returned (.agg (enCells (entQ s0 q).1).toArray) ∧ Rr w0 w' g s0 (entQ s0 q).2 ∧ KeepBut w w' g none := by
 have HR := am h
 have hlt := h.lt
 obtain ⟨r, hr⟩ : ∃ r, r = entQ s0 q := ⟨_, rfl⟩
 rw [← hr]
 unfold entQ entR at hr
 have hl1 := hashQ_len h.inn
 have hi1 := hashQ_in h.inn
 have hF := fun W (H : Rr w0 W g s0 q) => rHash107 w0 W g s0 q H
 obtain ⟨d1, q1, hkq⟩ : ∃ k q1, hashQ s0 q = (k, q1) := ⟨_, _, rfl⟩
 rw [hkq] at hr hl1 hi1
 simp only [hkq] at hF
 dsimp only at hr hl1 hi1
 obtain ⟨f, rfl⟩ : ∃ f, d1 = HL f := ⟨_, range_fn d1 hl1⟩
 have HF1 := am hF
 clear hkq hF hl1 h
 have hvr := varQ_range hi1
 have hi2 := varQ_in hi1
 have hF := fun W (H : Rr w0 W g s0 q1) => rVar w0 W g s0 q1 H
 obtain ⟨v, q2, hkq⟩ : ∃ k q2, varQ s0 q1 = (k, q2) := ⟨_, _, rfl⟩
 rw [hkq] at hr hvr hi2
 simp only [hkq] at hF
 dsimp only at hr hvr hi2
 have HF2 := am hF
 clear hkq hF hi1
 have hl3 := hashQ_len hi2
 have hF := fun W (H : Rr w0 W g s0 q2) => rHash107 w0 W g s0 q2 H
 obtain ⟨d3, q3, hkq⟩ : ∃ k q3, hashQ s0 q2 = (k, q3) := ⟨_, _, rfl⟩
 rw [hkq] at hr hl3
 simp only [hkq] at hF
 dsimp only at hr hl3
 obtain ⟨h, rfl⟩ : ∃ h, d3 = HL h := ⟨_, range_fn d3 hl3⟩
 have HF3 := am hF
 clear hkq hF hl3 hi2
 have HRES := am hr
 clear hr
 go_enter Tryz.func62, Tryz.ntmps62
 go_wp2_with fail
 have hx0 : (w.alloc (.cells Tryz.zeroCells81 81)).heap[w.heap.size]? = some (.cells (EF (fun _ => 0) 0 (fun _ => 0)) 81 (0, 0)) := (heap_alloc_new w _).trans (by rw [EF_zero])
 have hb0 : Below w.heap.size w (w.alloc (.cells Tryz.zeroCells81 81)) := below_alloc (Below.refl _ _) _
 generalize w.alloc (.cells Tryz.zeroCells81 81) = W0 at *
 refine (HF1.out W0 (HR.out.below hb0)).mono ?_
 rintro e w1 ⟨rfl, hr1, hk1⟩
 have HRa := am hr1
 have HKa := am (keep_then (KeepBut.of_below hb0 g none) hk1)
 have HXa := am (KeepBut.at_ hk1 hx0 (by omega))
 have HRG := am (show w.heap.size ≠ g by omega)
 clear hb0 hx0 hr1 hk1 HF1 HR
 go_wp2_with (first | (refine wpList_build' rfl 81 #[(0, .tmp 6)] rfl (.agg (EF f 0 (fun _ => 0))) (fun w => by kernel_rfl) ?_) | (refine wpList_store_row rfl 81 (.tmp 3) (.tmp 7) rfl w1.heap.size (EF f 0 (fun _ => 0)) rfl rfl 81 _ (heap_alloc_new w1 _) (by rw [EF_size]; kernel_rfl) (by rw [EF_size]; kernel_rfl) (ET_all _ _ _) ?_; rw [World.setRow_alloc_new]))
 have hb2 : Below w1.heap.size w1 (w1.alloc (.cells (EF f 0 (fun _ => 0)) 81)) := below_alloc (Below.refl _ _) _
 have HR2 := am (HRa.out.below hb2)
 have HK2 := am (KeepBut.below_ HKa.out hb2)
 have HX2 := am ((hb2.block _ (blk_lt HXa.out)).trans HXa.out)
 have HY2 := am (heap_alloc_new w1 (.cells (EF f 0 (fun _ => 0)) 81))
 have HBW := am (show w.heap.size ≤ w1.heap.size from HKa.out.1)
 have HGB := am (show g < w1.heap.size by have := HKa.out.1; omega)
 have HBG := am (show w1.heap.size ≠ g by have := HKa.out.1; omega)
 have HBX := am (show w.heap.size ≠ w1.heap.size by have := blk_lt HXa.out; omega)
 clear hb2 HRa HKa HXa
 generalize w1.alloc (.cells (EF f 0 (fun _ => 0)) 81) = w2 at *
 generalize w1.heap.size = b3 at *
 refine (HF2.out w2 HR2.out).mono ?_
 rintro e w3 ⟨rfl, hr, hk⟩
 have HR3 := am hr
 have HK3 := am (keep_then HK2.out hk)
 have HX3 := am (KeepBut.at_ hk HX2.out HRG.out)
 have HY3 := am (KeepBut.at_ hk HY2.out HBG.out)
 clear hr hk HF2 HR2 HK2 HX2 HY2
 go_wp2_with fail
 refine (HF3.out w3 HR3.out).mono ?_
 rintro e w4 ⟨rfl, hr, hk⟩
 have HR4 := am hr
 have HK4 := am (keep_then HK3.out hk)
 have HX4 := am (KeepBut.at_ hk HX3.out HRG.out)
 have HY4 := am (KeepBut.at_ hk HY3.out HBG.out)
 clear hr hk HF3 HR3 HK3 HX3 HY3
 have HR5 := am (HR4.out.setRow HGB.out (EF f 0 h))
 have HK5 := am (KeepBut.row HK4.out HBW.out (EF f 0 h))
 have HX5 := am ((setRow_other w4 b3 w.heap.size (EF f 0 h) HBX.out).trans HX4.out)
 have HY5 := am (setRow_heap w4 b3 _ (EF f 0 h) _ _ HY4.out)
 by_cases hv : v > 1048576
 ·have hne := failQ_ne (e := 5) q3 (by decide)
  have e := HRES.out
  rw [if_pos hv, if_neg hne] at e
  have HRR := am e
  have hF4 := fun W (H : Rr w0 W g s0 q3) => rFail 5 w0 W g s0 q3 H
  generalize failQ 5 q3 = q4 at *
  have HF4 := am hF4
  have hb : (q4.2.1 != 0) = true := by simpa using hne
  clear e hne hF4
  go_wp2_with (refine wpList_store_seg rfl 61 (.tmp 12) (.tmp 11) rfl b3 33 (hashCells (HL h)).toArray rfl rfl 81 _ HY4.out (by rw [hc32_size, EF_size]; decide) (by rw [hc32_size]; kernel_rfl) (hc32_all h) (EF f 0 h) (EF_hash _ _ _) ?_)
  generalize w4.setRow b3 (EF f 0 h) = w5 at *
  refine (HF4.out w5 HR5.out).mono ?_
  rintro e w7 ⟨rfl, hr6, hk6⟩
  have HR7 := am hr6
  have HK7 := am (keep_then HK5.out hk6)
  have HX7 := am (KeepBut.at_ hk6 HX5.out HRG.out)
  have c2 := hr6.err
  clear hr6 hk6
  go_wp2_with (refine wpList_store_row rfl 81 (.tmp 2) (.tmp 22) rfl w.heap.size Tryz.zeroCells81 rfl rfl 81 _ HX7.out (by kernel_rfl) (by kernel_rfl) (by kernel_rfl) ?_)
  refine bodyPost_ret (v := .agg Tryz.zeroCells81) (results_cell_row rfl _ _ w.heap.size 81 Tryz.zeroCells81 (0, 0) _ rfl (setRow_heap w7 w.heap.size _ Tryz.zeroCells81 _ _ HX7.out) Tryz.underlying81 rfl (by kernel_rfl)) rfl ?_
  rw [HRR.out]
  exact ⟨by rw [EF_zero]; rfl, HR7.out.setRow hlt _, KeepBut.row HK7.out (Nat.le_refl _) _⟩
 ·have e := HRES.out
  rw [if_neg hv] at e
  have HRR0 := am e
  clear e
  have c2 := HR5.out.err
  by_cases hz : q3.2.1 = 0
  ·have e := HRR0.out
   rw [if_pos hz] at e
   have HRR := am e
   rw [hz] at c2
   have hwv : wrap64 v = v := by unfold wrap64; omega
   have q32 : (w4.setRow b3 (EF f 0 h)).cell? ⟨b3, 32, none⟩ = some (.int .i64 0) := (blk_cell HY5.out 32).trans (EF_32 _ _ _)
   have f32 := blk_frozen HY5.out 32
   have HR8 := am (HR5.out.setCell HGB.out 32 (.int .i64 v))
   have HK8 := am (KeepBut.cell HK5.out HBW.out 32 (.int .i64 v))
   have HX8 := am ((Below.heap_setCell (w4.setRow b3 (EF f 0 h)) ⟨b3, 32, none⟩ (.int .i64 v) w.heap.size HBX.out).trans HX5.out)
   have HY8 : Aside0 (((w4.setRow b3 (EF f 0 h)).setCell ⟨b3, 32, none⟩ (.int .i64 v)).heap[b3]? = some (.cells (EF f v h) 81 (0, 0))) := am (by rw [setCell_eq_setRow _ _ _ _ _ _ _ HY5.out]; exact (setRow_heap _ _ _ _ _ _ HY5.out).trans (by rw [EF_set]))
   clear hz e
   go_wp2_with (first | (refine wpList_store_seg rfl 61 (.tmp 12) (.tmp 11) rfl b3 33 (hashCells (HL h)).toArray rfl rfl 81 _ HY4.out (by rw [hc32_size, EF_size]; decide) (by rw [hc32_size]; kernel_rfl) (hc32_all h) (EF f 0 h) (EF_hash _ _ _) ?_) | (refine wpList_load_row rfl 81 (.tmp 3) rfl b3 rfl 81 (EF f v h) (0, 0) _ HY8.out Tryz.underlying81 rfl (by rw [EF_size]; kernel_rfl) ?_) | (refine wpList_store_row rfl 81 (.tmp 2) (.tmp 26) rfl w.heap.size (EF f v h) rfl rfl 81 _ HX8.out (by rw [EF_size]; kernel_rfl) (by rw [EF_size, EF_size]) (ET_all _ _ _) ?_))
   generalize (w4.setRow b3 (EF f 0 h)).setCell ⟨b3, 32, none⟩ (.int .i64 v) = w8 at *
   refine bodyPost_ret (v := .agg (EF f v h)) (results_cell_row rfl _ _ w.heap.size 81 (EF f v h) (0, 0) _ rfl (setRow_heap w8 w.heap.size _ (EF f v h) _ _ HX8.out) Tryz.underlying81 rfl (by rw [EF_size]; kernel_rfl)) rfl ?_
   rw [HRR.out]
   exact ⟨rfl, HR8.out.setRow hlt _, KeepBut.row HK8.out (Nat.le_refl _) _⟩
  ·have hb : (q3.2.1 != 0) = true := by simpa using hz
   have e := HRR0.out
   rw [if_neg hz] at e
   have HRR := am e
   clear hz e
   have HR7 := HR5
   have HK7 := HK5
   have HX7 := HX5
   go_wp2_with (first | (refine wpList_store_seg rfl 61 (.tmp 12) (.tmp 11) rfl b3 33 (hashCells (HL h)).toArray rfl rfl 81 _ HY4.out (by rw [hc32_size, EF_size]; decide) (by rw [hc32_size]; kernel_rfl) (hc32_all h) (EF f 0 h) (EF_hash _ _ _) ?_) | (refine wpList_store_row rfl 81 (.tmp 2) (.tmp 22) rfl w.heap.size Tryz.zeroCells81 rfl rfl 81 _ HX7.out (by kernel_rfl) (by kernel_rfl) (by kernel_rfl) ?_))
   refine bodyPost_ret (v := .agg Tryz.zeroCells81) (results_cell_row rfl _ _ w.heap.size 81 Tryz.zeroCells81 (0, 0) _ rfl (setRow_heap _ w.heap.size _ Tryz.zeroCells81 _ _ HX7.out) Tryz.underlying81 rfl (by kernel_rfl)) rfl ?_
   rw [HRR.out]
   exact ⟨by rw [EF_zero]; rfl, HR7.out.setRow hlt _, KeepBut.row HK7.out (Nat.le_refl _) _⟩
end
section
section
open Go.Extern.Stop Go.Stop Go.Extern
theorem is_noIsM (v : Value) (xT : TypeId) (w : World) : (Instr.typeAssert (.iface 156 v) xT 196 true).run Tryz.prog w = .ok (.tuple #[.nilIface, .bool false]) w := run_typeAssert_lacksB Tryz.underlying196 (by kernel_rfl) (by kernel_rfl) v xT w
theorem is_unwrapM (v : Value) (xT : TypeId) (w : World) : (Instr.typeAssert (.iface 156 v) xT 199 true).run Tryz.prog w = .ok (.tuple #[.iface 156 v, .bool true]) w := run_typeAssert_hasB Tryz.underlying199 (by kernel_rfl) v xT w
theorem is_methodUnwrapM (v : Value) (w : World) : (Go.method 366 156 v "Unwrap").run Tryz.prog w = .ok (179, v) w := by kernel_rfl
set_option maxHeartbeats 4000000 in
theorem is_bad (a : Int) (w : World) :
  Calls Tryz.prog 55 #[.iface 156 (.agg #[.int .i64 a]), .iface 31 (.int .i64 4)] w fun e w' => e = .returned (.bool true) ∧ Below w.heap.size w w' := by
 have hto := @run_callFunc_extern Tryz.prog 97 _ ReflectliteType.typeOf Tryz.func97 (by kernel_rfl) (by kernel_rfl) (by kernel_rfl) (by kernel_rfl)
 have hcm := @run_callFunc_extern Tryz.prog 186 _ (ReflectliteType.method fun t => do Rtype.noPackHeld "Comparable" t; pure (.bool (← typeInfo t).comparable)) Tryz.func186 (by kernel_rfl) (by kernel_rfl) (by kernel_rfl) (by kernel_rfl)
 have tT := is_typeOf
 have cT := is_comparable
 have mR := is_methodComparable
 have nE := is_noIsE
 have uE := is_noUnwrapE
 have vE := is_noUnwrapsE
 have nB := is_noIsM
 have uB := is_unwrapM
 have mU := is_methodUnwrapM
 have hq : ∀ w : World, (binOp .eql 100 (.iface 31 (.int .i64 4)) (.iface 31 (.int .i64 4))).run Tryz.prog w = .ok (.bool true) w := fun w => is_eqE 4 4 w
 have hty := fun (v : Value) (w : World) => run_eql_iface_types (P := Tryz.prog) 156 31 v (.int .i64 4) Tryz.underlying100 (by decide) w
 go_enter Tryz.func55, Tryz.ntmps55
 go_wp2
 refine wp_loop_rounds 2 ?_
 rw [rounds_succ]
 go_wp2
 rw [rounds_succ]
 go_wp2
 go_ret
 exact ⟨rfl, by first | exact below_alloc (Below.refl _ _) _ | exact Below.refl _ _⟩
end
end
section
attribute [local go_sem] max2_int min2_int max_two min_two
theorem colsQ_len {s0 : List Int} : ∀ (n : Nat) (l : List S123) (q : St), (colsQ s0 n l q).1.length ≤ l.length + n
 | 0, l, q => Nat.le_refl _
 | n + 1, l, q => by
  rw [colsQ]
  split
  ·refine Nat.le_trans (colsQ_len n _ _) ?_
   rw [List.length_append, List.length_singleton]
   omega
  ·show l.length ≤ l.length + (n + 1)
   omega
theorem schQ_len {s0 : List Int} {q : St} (h : In s0 q) : (schQ s0 q).1.length ≤ 1000000 := by
 have hr := fixQ_range h
 have hl := colsQ_len (s0 := s0) (fixQ s0 q).1.toNat [] (fixQ s0 q).2
 rw [List.length_nil] at hl
 unfold schQ okL
 split
 ·show (colsQ s0 (fixQ s0 q).1.toNat [] (fixQ s0 q).2).1.length ≤ _
  omega
 ·simp
theorem takeQ_ok {s0 : List Int} {n : Int} {q : St} (h : (takeQ s0 n q).2.2.1 = 0) : q.2.1 = 0 ∧ (takeQ s0 n q).2.1 = q.1 + n := by
 unfold takeQ at h ⊢
 by_cases e : q.2.1 = 0
 ·rw [if_pos e] at h ⊢
  by_cases e2 : (s0.length : Int) - q.1 < n
  ·rw [if_pos e2] at h
   exact absurd h (show ¬ (2 : Int) = 0 by decide)
  ·rw [if_neg e2]
   exact ⟨e, rfl⟩
 ·rw [if_neg e] at h
  exact absurd h e
theorem varQ_ok {s0 : List Int} {q : St} (hi : In s0 q) (h : (varQ s0 q).2.2.1 = 0) : q.2.1 = 0 ∧ q.1 < (varQ s0 q).2.1 := by
 have hf := shortP_facts (s0.drop q.1.toNat) (hi.by_.drop _)
 unfold varQ varS at h ⊢
 by_cases e : q.2.1 = 0
 ·rw [if_pos e] at h ⊢
  by_cases e2 : (shortP (s0.drop q.1.toNat)).2.2 = 0
  ·rw [if_pos e2]
   obtain ⟨f1, f2, f3, f4⟩ := hf.2.2 e2
   exact ⟨e, show q.1 < q.1 + _ by omega⟩
  ·rw [if_neg e2] at h
   exact absurd h e2
 ·rw [if_neg e] at h
  exact absurd h e
theorem entQ_ok {s0 : List Int} {q : St} (hi : In s0 q) (h : (entQ s0 q).2.2.1 = 0) : q.2.1 = 0 ∧ q.1 + 64 < (entQ s0 q).2.1 := by
 have h0 : (entR s0 q).2.2.1 = 0 := h
 show _ ∧ q.1 + 64 < (entR s0 q).2.1
 unfold entR at h0 ⊢
 dsimp only at h0 ⊢
 by_cases e : (varQ s0 (hashQ s0 q).2).1 > 1048576
 ·rw [if_pos e] at h0
  exact absurd h0 (failQ_ne _ (by decide))
 ·rw [if_neg e] at h0 ⊢
  obtain ⟨a1, a2⟩ := takeQ_ok (s0 := s0) (n := 32) h0
  obtain ⟨b1, b2⟩ := varQ_ok (hashQ_in hi) a1
  obtain ⟨c1, c2⟩ := takeQ_ok (s0 := s0) (n := 32) b1
  refine ⟨c1, ?_⟩
  have a3 : (hashQ s0 (varQ s0 (hashQ s0 q).2).2).2.1 = (varQ s0 (hashQ s0 q).2).2.1 + 32 := a2
  have c3 : (hashQ s0 q).2.1 = q.1 + 32 := c2
  omega
theorem entsQ_len {s0 : List Int} : ∀ (n : Nat) (l : List En) (q : St), In s0 q → (entsQ s0 n l q).2.2.1 = 0 → ((entsQ s0 n l q).1.length : Int) + q.1 ≤ l.length + (entsQ s0 n l q).2.1
 | 0, l, q, _, _ => by show (l.length : Int) + q.1 ≤ l.length + q.1; omega
 | n + 1, l, q, hi, h => by
  rw [entsQ] at h ⊢
  by_cases e : q.2.1 = 0
  ·rw [if_pos e] at h ⊢
   have e2 : (entQ s0 q).2.2.1 = 0 := by
    by_cases e3 : (entQ s0 q).2.2.1 = 0
    ·exact e3
    ·rw [entsQ_err e3] at h
     exact absurd h e3
   have h1 := (entQ_ok hi e2).2
   have h2 := entsQ_len n (l ++ [(entQ s0 q).1]) (entQ s0 q).2 (entQ_in hi) h
   rw [List.length_append, List.length_singleton] at h2
   omega
  ·rw [if_neg e]
   show (l.length : Int) + q.1 ≤ l.length + q.1
   omega
theorem in0 {s0 : List Int} (hby : ByteL s0) (hl : s0.length < 1000000000) : In s0 q0 := ⟨hby, hl, Int.le_refl 0, Int.natCast_nonneg _⟩
theorem gen_in {s0 : List Int} (h : In s0 q0) : In s0 (mostQ s0).2 := numQ_in (numQ_in (numQ_in h))
theorem ng_in {s0 : List Int} (h : In s0 q0) : In s0 (mschQ s0).2 := schQ_in (gen_in h)
theorem ne_in {s0 : List Int} (h : In s0 q0) : In s0 (mrowQ s0).2 := takeRowsQ_in (grpsQ_in _ _ _ (numQ_in (ng_in h)))
theorem ent_le {s0 : List Int} (h : In s0 q0) (he : (mentQ s0).2.2.1 = 0) : (mentQ s0).1.length ≤ s0.length := by
 have h1 : In s0 (neQ s0).2 := numQ_in (ne_in h)
 have h2 := entsQ_len (neQ s0).1.toNat [] (neQ s0).2 h1 he
 have h3 : In s0 (mentQ s0).2 := entsQ_in _ _ _ h1
 have h4 := h1.lo
 have h5 := h3.hi
 have h6 : ((mentQ s0).1.length : Int) + (neQ s0).2.1 ≤ (0 : Nat) + (mentQ s0).2.1 := h2
 omega
theorem qRead (A0 : Option Addr) (c0 : Nat) (s0 : List Int) (w : World) (hr0 : Kd.C (Kd.int .u8) w A0 s0.length s0) (hc0 : s0.length ≤ c0) (hG : ErrT w) (hby : ByteL s0) (hlen : s0.length ≤ 1000000) :
  Calls Tryz.prog 54 #[.slice A0 s0.length c0] w fun e w' => ∃ m As cs Ag cg Al cl Ae ce ev, e = .returned (.tuple #[.agg (mnCells m As cs Ag cg Al cl Ae ce), ev]) ∧ ReadA w w' s0 m As cs Ag cg Al cl Ae ce ev (goodM s0) ∧ (goodM s0 → m = readM s0) := by
 have hi := in0 hby (show s0.length < 1000000000 by omega)
 exact read_core A0 c0 s0 w hr0 hc0 hG hby (by omega) (genQ s0).1 (nextQ s0).1 (mostQ s0).1 (ngQ s0).1 (neQ s0).1 (genQ s0).2 (nextQ s0).2 (mostQ s0).2 (mschQ s0).2 (ngQ s0).2 (mgrpQ s0).2 (mrowQ s0).2 (neQ s0).2 (mentQ s0).2 (mschQ s0).1 (mgrpQ s0).1 (mrowQ s0).1 (mentQ s0).1
  rfl rfl rfl rfl rfl rfl rfl rfl rfl (schQ_len (gen_in hi)) (fun he => Nat.le_trans (ent_le hi he) hlen) (numQ_range (by decide) (ng_in hi)) (numQ_range (by decide) (ne_in hi))
def takeA (len : Int) (p : List Int) (n e : Int) : Mn × Int := if e = 0 then (if n < len then (zMn, 3) else if goodM p then (readM p, 0) else (zMn, 4)) else (zMn, e)
structure TakeA (w w' : World) (ev : Ending) (m : Mn) (ec : Int) : Prop where
 ex : ∃ As cs Ag cg Al cl Ae ce, ev = .returned (.tuple #[.agg (mnCells m As cs Ag cg Al cl Ae ce), .int .i64 ec]) ∧ MnC w' m As cs Ag cg Al cl Ae ce
 bel : Below w.heap.size w w'
theorem MnC_zero (w : World) : MnC w zMn none 0 none 0 none 0 none 0 := by
 have h : ∀ {α : Type} (d : Kd α) (e : Nat), Kd.C d w none ([] : List α).length [] := fun d e => (Kd.R_reads' (Kd.R_nil d e w 0 (fun _ => True))).2.2
 exact ⟨h k123 0, Nat.le_refl _, h kRf 0, Nat.le_refl _, h (Kd.slice 68 k68) 0, Nat.le_refl _, h kEn 0, Nat.le_refl _⟩
set_option maxHeartbeats 8000000 in
set_option maxRecDepth 100000 in
theorem qTakeM (A0 : Option Addr) (c0 : Nat) (b : List Int) (p : List Int) (n ec : Int) (w : World) (hr0 : Kd.C (Kd.int .u8) w A0 b.length b) (hc0 : b.length ≤ c0) (hG : ErrT w) (hf : frame_Get.f b = some (p, n, ec)) (hp : ec = 0 → ByteL p ∧ p.length ≤ 1000000) :
  Calls Tryz.prog 18 #[.slice A0 b.length c0] w fun ev w' => TakeA w w' ev (takeA b.length p n ec).1 (takeA b.length p n ec).2 := by
 have HR0 := am hr0
 have HC0 := am hc0
 have HG := am hG
 have HF := am hf
 have HP := am hp
 obtain ⟨r, hr⟩ : ∃ r, r = takeA b.length p n ec := ⟨_, rfl⟩
 rw [← hr]
 unfold takeA at hr
 have HRES := am hr
 clear hr0 hc0 hG hf hp hr
 go_enter Tryz.func18, Tryz.ntmps18
 go_wp2_with fail
 have hm0 : (w.alloc (.cells (MC 0 0 nilS 0 nilS nilS nilS) 27)).heap[w.heap.size]? = some (.cells (MC 0 0 nilS 0 nilS nilS nilS) 27 (0, 0)) := heap_alloc_new w _
 have hb0 : Below w.heap.size w (w.alloc (.cells (MC 0 0 nilS 0 nilS nilS nilS) 27)) := below_alloc (Below.refl _ _) _
 have HX0 := am hm0
 have HB0 := am hb0
 have HR1 := am (Kd.C_below HR0.out hb0)
 have HG0 := am (HG.out.of_below hb0)
 clear hm0 hb0
 generalize w.alloc (.cells (MC 0 0 nilS 0 nilS nilS nilS) 27) = W0 at *
 refine (frame_Get.calls A0 c0 b p n ec W0 HR1.out HC0.out HG0.out HF.out).mono ?_
 rintro e w1 ⟨v, rfl, hv, hb⟩
 obtain ⟨A, c, rfl⟩ := Kd.R_slice hv
 have HRD := am (Kd.R_reads' hv)
 have HX1 := am ((hb.block _ (blk_lt HX0.out)).trans HX0.out)
 have HB1 := am (below_then HB0.out HB0.out.size hb)
 have HG1 := am (HG0.out.of_below hb)
 clear hv hb HR0 HR1 HX0 HB0 HG0
 by_cases h0 : ec = 0
 ·subst h0
  have e := HRES.out
  rw [if_pos rfl] at e
  by_cases hn : n < (b.length : Int)
  ·rw [if_pos hn] at e
   have HRR := am e
   clear e
   go_wp2_with (first | (refine wpList_load_row rfl 27 (.tmp 2) rfl w.heap.size rfl 27 (MC 0 0 nilS 0 nilS nilS nilS) (0, 0) _ HX1.out Tryz.underlying27 rfl (by kernel_rfl) ?_) | (refine wpList_store_row rfl 27 (.tmp 2) (.tmp 23) rfl w.heap.size (MC 0 0 nilS 0 nilS nilS nilS) rfl rfl 27 (MC 0 0 nilS 0 nilS nilS nilS) HX1.out (by kernel_rfl) rfl (by kernel_rfl) ?_))
   rw [setRow_self w1 w.heap.size _ _ _ HX1.out]
   refine bodyPost_ret (v := .tuple #[.agg (MC 0 0 nilS 0 nilS nilS nilS), .int .i64 3]) (results_cr_tmp (p := 2) (u := 3) rfl _ _ w.heap.size 27 (MC 0 0 nilS 0 nilS nilS nilS) (0, 0) _ rfl HX1.out Tryz.underlying27 rfl (by kernel_rfl)) rfl ?_
   rw [HRR.out]
   exact ⟨⟨none, 0, none, 0, none, 0, none, 0, rfl, MnC_zero _⟩, HB1.out⟩
  ·rw [if_neg hn] at e
   have HRR := am e
   obtain ⟨hpb, hpl⟩ := HP.out rfl
   have HRDM := am (qRead A c p w1 HRD.out.2.2 HRD.out.2.1 HG1.out hpb hpl)
   clear e hpb hpl
   go_wp2_with fail
   refine HRDM.out.mono ?_
   rintro e w2 ⟨m, As, cs, Ag, cg, Al, cl, Ae, ce, ev, rfl, hA, hM⟩
   have HX2 := am ((hA.bel.block _ (blk_lt HX1.out)).trans HX1.out)
   have HB2 := am (below_then HB1.out HB1.out.size hA.bel)
   have HA := am hA
   have HX3 := am (setRow_heap w2 w.heap.size _ (mnCells m As cs Ag cg Al cl Ae ce) _ _ HX2.out)
   have HB3 := am (m_belowRow' HB2.out w.heap.size (Nat.le_refl _) (mnCells m As cs Ag cg Al cl Ae ce))
   by_cases hgd : goodM p
   ·have hev := hA.yes hgd
    have hmm := hM hgd
    have e := HRR.out
    rw [if_pos hgd] at e
    have HRG := am e
    subst hmm hev
    have HC3 := am (hA.c (w2.setRow w.heap.size (mnCells (readM p) As cs Ag cg Al cl Ae ce)) (fun k hk _ => setRow_other w2 w.heap.size k _ (by have := blk_lt HX1.out; omega)))
    clear hA hM hgd e
    go_wp2_with (refine wpList_store_row rfl 27 (.tmp 2) (.tmp 27) rfl w.heap.size (mnCells (readM p) As cs Ag cg Al cl Ae ce) rfl rfl 27 _ HX2.out (by kernel_rfl) rfl (by kernel_rfl) ?_)
    generalize w2.setRow w.heap.size (mnCells (readM p) As cs Ag cg Al cl Ae ce) = w3 at *
    refine (is_nil 4 w3).mono ?_
    rintro e w' ⟨rfl, rfl⟩
    go_wp2_with (first | (refine wpList_load_row rfl 27 (.tmp 2) rfl w.heap.size rfl 27 (mnCells (readM p) As cs Ag cg Al cl Ae ce) (0, 0) _ HX3.out Tryz.underlying27 rfl (by kernel_rfl) ?_) | (refine wpList_store_row rfl 27 (.tmp 2) (.tmp 33) rfl w.heap.size (mnCells (readM p) As cs Ag cg Al cl Ae ce) rfl rfl 27 (mnCells (readM p) As cs Ag cg Al cl Ae ce) HX3.out (by kernel_rfl) rfl (by kernel_rfl) ?_))
    rw [setRow_self w3 w.heap.size _ _ _ HX3.out]
    refine bodyPost_ret (v := .tuple #[.agg (mnCells (readM p) As cs Ag cg Al cl Ae ce), .int .i64 0]) (results_cr_tmp (p := 2) (u := 3) rfl _ _ w.heap.size 27 (mnCells (readM p) As cs Ag cg Al cl Ae ce) (0, 0) _ rfl HX3.out Tryz.underlying27 rfl (by kernel_rfl)) rfl ?_
    rw [HRG.out]
    exact ⟨⟨As, cs, Ag, cg, Al, cl, Ae, ce, rfl, HC3.out⟩, HB3.out⟩
   ·obtain ⟨x, rfl⟩ := hA.no hgd
    have e := HRR.out
    rw [if_neg hgd] at e
    have HRG := am e
    clear hA hM hgd e
    go_wp2_with (refine wpList_store_row rfl 27 (.tmp 2) (.tmp 27) rfl w.heap.size (mnCells m As cs Ag cg Al cl Ae ce) rfl rfl 27 _ HX2.out (by kernel_rfl) rfl (by kernel_rfl) ?_)
    generalize w2.setRow w.heap.size (mnCells m As cs Ag cg Al cl Ae ce) = w3 at *
    refine (is_bad x w3).mono ?_
    rintro e w4 ⟨rfl, hb⟩
    have HX4 := am ((hb.block _ (blk_lt HX3.out)).trans HX3.out)
    have HB4 := am (below_then HB3.out HB3.out.size hb)
    clear hb
    go_wp2_with (refine wpList_store_row rfl 27 (.tmp 2) (.tmp 32) rfl w.heap.size (MC 0 0 nilS 0 nilS nilS nilS) rfl rfl 27 _ HX4.out (by kernel_rfl) rfl (by kernel_rfl) ?_)
    have HX5 := am (setRow_heap w4 w.heap.size _ (MC 0 0 nilS 0 nilS nilS nilS) _ _ HX4.out)
    have HB5 := am (m_belowRow' HB4.out w.heap.size (Nat.le_refl _) (MC 0 0 nilS 0 nilS nilS nilS))
    generalize w4.setRow w.heap.size (MC 0 0 nilS 0 nilS nilS nilS) = w5 at *
    refine bodyPost_ret (v := .tuple #[.agg (MC 0 0 nilS 0 nilS nilS nilS), .int .i64 4]) (results_cr_tmp (p := 2) (u := 3) rfl _ _ w.heap.size 27 (MC 0 0 nilS 0 nilS nilS nilS) (0, 0) _ rfl HX5.out Tryz.underlying27 rfl (by kernel_rfl)) rfl ?_
    rw [HRG.out]
    exact ⟨⟨none, 0, none, 0, none, 0, none, 0, rfl, MnC_zero _⟩, HB5.out⟩
 ·have e := HRES.out
  rw [if_neg h0] at e
  have HRR := am e
  have hne : (ec != 0) = true := by simpa using h0
  clear e h0
  go_wp2_with (first | (refine wpList_load_row rfl 27 (.tmp 2) rfl w.heap.size rfl 27 (MC 0 0 nilS 0 nilS nilS nilS) (0, 0) _ HX1.out Tryz.underlying27 rfl (by kernel_rfl) ?_) | (refine wpList_store_row rfl 27 (.tmp 2) (.tmp 16) rfl w.heap.size (MC 0 0 nilS 0 nilS nilS nilS) rfl rfl 27 (MC 0 0 nilS 0 nilS nilS nilS) HX1.out (by kernel_rfl) rfl (by kernel_rfl) ?_))
  rw [setRow_self w1 w.heap.size _ _ _ HX1.out]
  refine bodyPost_ret (v := .tuple #[.agg (MC 0 0 nilS 0 nilS nilS nilS), .int .i64 ec]) (results_cr_tmp (p := 2) (u := 3) rfl _ _ w.heap.size 27 (MC 0 0 nilS 0 nilS nilS nilS) (0, 0) _ rfl HX1.out Tryz.underlying27 rfl (by kernel_rfl)) rfl ?_
  rw [HRR.out]
  exact ⟨⟨none, 0, none, 0, none, 0, none, 0, rfl, MnC_zero _⟩, HB1.out⟩
end
end Go.Proofs.YtjmhiklmlgbifaaGreatDoor.PMan

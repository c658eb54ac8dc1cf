/- Texts, put into one. -/
import Derived.Test.YtjmhiklmlgbifaaGreatDoorPT39
import Derived.Test.YtjmhiklmlgbifaaGreatDoorPT40
import Derived.Test.YtjmhiklmlgbifaaGreatDoorPT41
import Derived.DeepKeys
import Derived.Test.YtjmhiklmlgbifaaGreatDoorPTW
set_option linter.unusedVariables false
set_option linter.unusedSimpArgs false
open Go Go.RowKit Go.Proofs.YtjmhiklmlgbifaaGreatDoorW.PrintWords Go.Proofs.YtjmhiklmlgbifaaGreatDoorW.PrintLast Go.Proofs.YtjmhiklmlgbifaaGreatDoorW.PrintMore
namespace Go.Proofs.YtjmhiklmlgbifaaGreatDoor.PMan
section
structure Nr (w W : World) (g mb : Nat) (s0 : List Int) (q : St) (C : Array Value) : Prop where
 rx : ∃ w0, Rr w0 W g s0 q
 mbk : W.heap[mb]? = some (.cells C 27 (0, 0))
 rbk : W.heap[w.heap.size]? = some (.cells (MC 0 0 nilS 0 nilS nilS nilS) 27 (0, 0))
 bel : Below w.heap.size w W
 gw : w.heap.size < g
 mg : g < mb
section
variable {w W W1 : World} {g mb : Nat} {s0 : List Int} {q q' : St} {C : Array Value}
theorem Nr.inn (h : Nr w W g mb s0 q C) : In s0 q := by
 obtain ⟨⟨w0, h1⟩, _⟩ := h
 exact h1.inn
theorem Nr.lt (h : Nr w W g mb s0 q C) : g < W.heap.size := by
 obtain ⟨⟨w0, h1⟩, _⟩ := h
 exact h1.lt
theorem Nr.err (h : Nr w W g mb s0 q C) : W.cell? ⟨g, 2, none⟩ = some (.int .i64 q.2.1) := by
 obtain ⟨⟨w0, h1⟩, _⟩ := h
 exact h1.err
theorem Nr.mcell (h : Nr w W g mb s0 q C) (i : Nat) : W.cell? ⟨mb, i, none⟩ = C[i]? := blk_cell h.mbk i
theorem Nr.mfree (h : Nr w W g mb s0 q C) (i : Nat) : W.frozen? ⟨mb, i, none⟩ = false := blk_frozen h.mbk i
theorem Nr.below (h : Nr w W g mb s0 q C) (hb : Below W.heap.size W W1) : Nr w W1 g mb s0 q C := by
 obtain ⟨⟨w0, h1⟩, hm, hr, hbl, hgw, hmg⟩ := h
 exact ⟨⟨w0, h1.below hb⟩, (hb.block _ (blk_lt hm)).trans hm, (hb.block _ (blk_lt hr)).trans hr, below_then hbl hbl.size hb, hgw, hmg⟩
theorem Nr.store (h : Nr w W g mb s0 q C) (i : Nat) (v : Value) : Nr w (W.setCell ⟨mb, i, none⟩ v) g mb s0 q (C.setIfInBounds i v) := by
 obtain ⟨⟨w0, h1⟩, hm, hr, hbl, hgw, hmg⟩ := h
 refine ⟨⟨w0, h1.setCell hmg i v⟩, ?_, (Below.heap_setCell W ⟨mb, i, none⟩ v _ (by show w.heap.size ≠ mb; omega)).trans hr, hbl.setCell (by show w.heap.size ≤ mb; omega) v, hgw, hmg⟩
 rw [setCell_eq_setRow _ _ _ _ _ _ _ hm]
 exact setRow_heap _ _ _ _ _ _ hm
theorem Nr.setCell (h : Nr w W g mb s0 q C) {b : Nat} (hb : g < b) (hm : mb ≠ b) (o : Nat) (u : Value) : Nr w (W.setCell ⟨b, o, none⟩ u) g mb s0 q C := by
 obtain ⟨⟨w0, h1⟩, hmk, hr, hbl, hgw, hmg⟩ := h
 exact ⟨⟨w0, h1.setCell hb o u⟩, (Below.heap_setCell W ⟨b, o, none⟩ u mb hm).trans hmk, (Below.heap_setCell W ⟨b, o, none⟩ u _ (by show w.heap.size ≠ b; omega)).trans hr, hbl.setCell (by show w.heap.size ≤ b; omega) u, hgw, hmg⟩
theorem Nr.setRow (h : Nr w W g mb s0 q C) {b : Nat} (hb : g < b) (hm : mb ≠ b) (c : Array Value) : Nr w (W.setRow b c) g mb s0 q C := by
 obtain ⟨⟨w0, h1⟩, hmk, hr, hbl, hgw, hmg⟩ := h
 exact ⟨⟨w0, h1.setRow hb c⟩, (setRow_other W b mb c hm).trans hmk, (setRow_other W b _ c (by omega)).trans hr, m_belowRow' hbl b (by omega) c, hgw, hmg⟩
theorem Nr.grown {α : Type} {d : Kd α} {e : Nat} {ok : Nat → Prop} {v : Value} {xs : List α} (h : Nr w W g mb s0 q C) (hv : d.R e W (g + 1) ok v xs) (h27 : e ≠ 27) (hg : W.grownBy W1 v.ownBlock) : Nr w W1 g mb s0 q C := by
 obtain ⟨⟨w0, h1⟩, hm, hr, hbl, hgw, hmg⟩ := h
 refine ⟨⟨w0, h1.grown hv (Nat.lt_succ_self g) hg⟩, (hg.block _ (blk_lt hm) (Kd.R_ne hv hm h27)).trans hm, (hg.block _ (blk_lt hr) (Kd.R_ne hv hr h27)).trans hr, hbl.grown hg hbl.size (fun k hk => ?_), hgw, hmg⟩
 have := Kd.R_base hv k hk
 omega
theorem Nr.lift {f : FuncId} {args : Array Value} {R : Ending → World → Prop} (h : Nr w W g mb s0 q C) (hc : ∀ w0, Rr w0 W g s0 q → Calls Tryz.prog f args W fun e w' => R e w' ∧ Rr w0 w' g s0 q' ∧ KeepBut W w' g none) :
  Calls Tryz.prog f args W fun e w' => R e w' ∧ Nr w w' g mb s0 q' C ∧ KeepBut W w' g none := by
 obtain ⟨⟨w0, h1⟩, hm, hr, hbl, hgw, hmg⟩ := h
 refine (hc w0 h1).mono ?_
 rintro e w' ⟨k1, k2, k3⟩
 exact ⟨k1, ⟨⟨w0, k2⟩, KeepBut.at_ k3 hm (by omega), KeepBut.at_ k3 hr (by omega), base_call hbl h1.bel k2.bel k3 (by omega), hgw, hmg⟩, k3⟩
theorem nNumber {a : Int} (h : Nr w W g mb s0 q C) (e : numQ 1099511627776 s0 q = (a, q')) :
  Calls Tryz.prog 57 #[.pointer (some ⟨g, 0, none⟩)] W fun e w' => e = .returned (.int .i64 a) ∧ Nr w w' g mb s0 q' C ∧ KeepBut W w' g none := by
 refine h.lift (R := fun e _ => e = .returned (.int .i64 a)) (fun w0 H => ?_)
 have := rNumber57 w0 W g s0 q H
 rw [e] at this
 exact this
theorem nSchema {l : List S123} (h : Nr w W g mb s0 q C) (e : schQ s0 q = (l, q')) :
  Calls Tryz.prog 58 #[.pointer (some ⟨g, 0, none⟩)] W fun e w' => ∃ A c, e = .returned (.slice A l.length c) ∧ Kd.R k123 123 w' (g + 1) (fun _ => True) (.slice A l.length c) l ∧ Nr w w' g mb s0 q' C ∧ KeepBut W w' g none := by
 have hb := h.lt
 refine (h.lift (R := fun e w' => ∃ vv, e = .returned vv ∧ Kd.R k123 123 w' (g + 1) (fun _ => True) vv l) (q' := q') (fun w0 H => ?_)).mono ?_
 ·have := rSchema w0 W g s0 q H
  rw [e] at this
  refine this.mono ?_
  rintro e w' ⟨vv, h1, h2, h3, h4⟩
  exact ⟨⟨vv, h1, Kd.R_lower h2 hb⟩, h3, h4⟩
 ·rintro e w' ⟨⟨vv, h1, h2⟩, h3, h4⟩
  obtain ⟨A, c, rfl⟩ := Kd.R_slice h2
  exact ⟨A, c, h1, h2, h3, h4⟩
theorem nRows {A : Option Addr} {c : Nat} {s : List S123} {l : List (List S68)} (h : Nr w W g mb s0 q C) (hs : Kd.R k123 123 W (g + 1) (fun _ => True) (.slice A s.length c) s) (hl : s.length ≤ 1000000) (e : takeRowsQ s0 s q = (l, q')) :
  Calls Tryz.prog 61 #[.pointer (some ⟨g, 0, none⟩), .slice A s.length c] W fun e w' => ∃ A c, e = .returned (.slice A l.length c) ∧ Kd.R (Kd.slice 68 k68) 89 w' (g + 1) (fun _ => True) (.slice A l.length c) l ∧ Nr w w' g mb s0 q' C ∧ KeepBut W w' g none := by
 have hb := h.lt
 refine (h.lift (R := fun e w' => ∃ vv, e = .returned vv ∧ Kd.R (Kd.slice 68 k68) 89 w' (g + 1) (fun _ => True) vv l) (q' := q') (fun w0 H => ?_)).mono ?_
 ·have := rRows A c s w0 W g s0 q H (fun W' hk => (Kd.R_reads' (R_past hs (Nat.lt_succ_self g) hk)).2.2) (Kd.R_reads' hs).2.1 hl
  rw [e] at this
  refine this.mono ?_
  rintro e w' ⟨vv, h1, h2, h3, h4⟩
  exact ⟨⟨vv, h1, Kd.R_lower h2 hb⟩, h3, h4⟩
 ·rintro e w' ⟨⟨vv, h1, h2⟩, h3, h4⟩
  obtain ⟨A, c, rfl⟩ := Kd.R_slice h2
  exact ⟨A, c, h1, h2, h3, h4⟩
theorem nHead {A : Option Addr} {c : Nat} {s : List S123} {x y : Int} {f : Nat → Int} {cols : List CH} (h : Nr w W g mb s0 q C) (hs : Kd.R k123 123 W (g + 1) (fun _ => True) (.slice A s.length c) s) (hl : s.length ≤ 1000000) (e : headQ s0 s q = (⟨x, y, HL f, cols⟩, q')) :
  Calls Tryz.prog 59 #[.pointer (some ⟨g, 0, none⟩), .slice A s.length c] W fun e w' => ∃ A c, e = .returned (.agg (HC x y f A cols.length c)) ∧ Kd.R kCH 72 w' W.heap.size (fun _ => True) (.slice A cols.length c) cols ∧ Nr w w' g mb s0 q' C ∧ KeepBut W w' g none := by
 refine (h.lift (R := fun e w' => ∃ A c, e = .returned (.agg (HC x y f A cols.length c)) ∧ Kd.R kCH 72 w' W.heap.size (fun _ => True) (.slice A cols.length c) cols) (q' := q') (fun w0 H => ?_)).mono ?_
 ·have := rHead A c s w0 W g s0 q H (fun W' hk => (Kd.R_reads' (R_past hs (Nat.lt_succ_self g) hk)).2.2) (Kd.R_reads' hs).2.1 hl
  rw [e] at this
  refine this.mono ?_
  rintro e w' ⟨A, c, h1, h0, h2, h3, h4⟩
  exact ⟨⟨A, c, h1, h2⟩, h3, h4⟩
 ·rintro e w' ⟨⟨A, c, h1, h2⟩, h3, h4⟩
  exact ⟨A, c, h1, h2, h3, h4⟩
theorem nBlob {l : List Int} (h : Nr w W g mb s0 q C) (e : blobQ s0 65536 q = (l, q')) :
  Calls Tryz.prog 60 #[.pointer (some ⟨g, 0, none⟩), .int .i64 65536] W fun e w' => ∃ A c, e = .returned (.slice A l.length c) ∧ Kd.R (Kd.int .u8) 5 w' W.heap.size (fun _ => True) (.slice A l.length c) l ∧ Nr w w' g mb s0 q' C ∧ KeepBut W w' g none := by
 refine (h.lift (R := fun e w' => ∃ vv, e = .returned vv ∧ Kd.R (Kd.int .u8) 5 w' W.heap.size (fun _ => True) vv l) (q' := q') (fun w0 H => ?_)).mono ?_
 ·have := rBlob w0 W g s0 q H
  rw [e] at this
  refine this.mono ?_
  rintro e w' ⟨vv, h1, h2, h3, h4⟩
  exact ⟨⟨vv, h1, h2⟩, h3, h4⟩
 ·rintro e w' ⟨⟨vv, h1, h2⟩, h3, h4⟩
  obtain ⟨A, c, rfl⟩ := Kd.R_slice h2
  exact ⟨A, c, h1, h2, h3, h4⟩
theorem nEnt {x : En} (h : Nr w W g mb s0 q C) (e : entQ s0 q = (x, q')) :
  Calls Tryz.prog 62 #[.pointer (some ⟨g, 0, none⟩)] W fun e w' => e = .returned (.agg (enCells x).toArray) ∧ Nr w w' g mb s0 q' C ∧ KeepBut W w' g none := by
 refine h.lift (R := fun e _ => e = .returned (.agg (enCells x).toArray)) (fun w0 H => ?_)
 have := rEnt w0 W g s0 q H
 rw [e] at this
 exact this
theorem nEnd (h : Nr w W g mb s0 q C) :
  Calls Tryz.prog 63 #[.pointer (some ⟨g, 0, none⟩)] W fun e w' => (∃ p, e = .returned (.tuple #[.int .i64 (endQ s0 q), .int .i64 p])) ∧ Below W.heap.size W w' := by
 obtain ⟨⟨w0, h1⟩, _⟩ := h
 refine (rEnd w0 W g s0 q h1).mono ?_
 rintro e w' ⟨p, h1, h2⟩
 exact ⟨⟨p, h1⟩, h2⟩
end
theorem RFL_seg (n x y : Int) (f : Nat → Int) (A : Option Addr) (k c : Nat) : ((RFL n 0 0 (fun _ => 0) none 0 0 none 0 0).toArray.toList.take 1 ++ (HC x y f A k c).toList ++ (RFL n 0 0 (fun _ => 0) none 0 0 none 0 0).toArray.toList.drop (1 + (HC x y f A k c).size)).toArray = (RFL n x y f A k c none 0 0).toArray := by kernel_rfl
end
section
def Alike0 (d : Nat) (t : TypeId) (a : Value) : Prop := ∀ w : World, (Op.equalIn d t a a).run Tryz.prog w = .ok true w
def FieldsOk (d : Nat) (xs : Array Value) : List Field → Prop
 | [] => True
 | f :: fs => (∃ a, (∀ w : World, (part f.type xs f.offset).run Tryz.prog w = .ok a w) ∧ Alike0 d f.type a) ∧ FieldsOk d xs fs
theorem fields_self (d : Nat) (xs : Array Value) : ∀ (fs : List Field), FieldsOk d xs fs → ∀ w : World, (Op.eqFields d xs xs fs).run Tryz.prog w = .ok true w
 | [], _, w => by simp [Op.eqFields]
 | f :: fs, ⟨⟨a, h1, h2⟩, h3⟩, w => by
  have h4 := fields_self d xs fs h3 w
  have h5 := h2 w
  simp only [Op.eqFields]
  by_cases e : f.name ≠ "_"
  ·rw [if_pos e]
   simp [h1, h5, h4]
  ·rw [if_neg e]
   exact h4
theorem struct_self (d : Nat) (t : TypeId) (xs : Array Value) (fs : Array Field) (ht : Tryz.prog.underlying t = some (.struct fs)) (hp : Tryz.prog.stoodInHeld t = false) (hf : FieldsOk d xs fs.toList) : Alike0 (d + 1) t (.agg xs) := fun w => by
 have e : Tryz.prog.fieldsOf t = fs := by unfold Program.fieldsOf; rw [ht]
 rw [run_equalIn_struct w d t xs xs (by rw [e]; exact ht) hp, e]
 exact fields_self d xs _ hf w
theorem int_self (d : Nat) (t : TypeId) (k k' : IntKind) (a : Int) (h : Tryz.prog.underlying t = some (.int k')) : Alike0 (d + 1) t (.int k a) := fun w => by
 rw [run_equalIn_int w d t k k' a a h]
 simp
theorem bool_self (d : Nat) (t : TypeId) (a : Bool) (h : Tryz.prog.underlying t = some .bool) : Alike0 (d + 1) t (.bool a) := fun w => by
 rw [run_equalIn_bool' w d t a a h]
 simp
theorem string_self (d : Nat) (t : TypeId) (a : ByteArray) (h : Tryz.prog.underlying t = some .string) : Alike0 (d + 1) t (.string a) := fun w => by
 rw [run_equalIn_string w d t a a h]
 simp
theorem items_self (d : Nat) (xs : Array Value) : ∀ (is : List Nat), (∀ i, i ∈ is → ∃ n, xs[i]? = some (.int .u8 n)) → ∀ w : World, (Op.eqItems (d + 1) 5 1 xs xs is).run Tryz.prog w = .ok true w
 | [], _, w => by simp [Op.eqItems]
 | i :: is, h, w => by
  obtain ⟨n, hn⟩ := h i (List.mem_cons_self ..)
  have h1 := run_part_plain (P := Tryz.prog) w (e := 5) (by kernel_rfl) hn
  have h2 := int_self d 5 .u8 .u8 n Tryz.underlying5 w
  have h3 := items_self d xs is (fun j hj => h j (List.mem_cons_of_mem _ hj)) w
  simp only [Op.eqItems, Nat.mul_one, Sem.run_bind, h1, Result.andThen_ok, h2]
  simpa using h3
theorem hash_self (d : Nat) (f : Nat → Int) : Alike0 (d + 2) 61 (.agg (hashCells (HL f)).toArray) := fun w => by
 obtain ⟨i, hi⟩ := info_of_underlying Tryz.underlying5
 rw [run_equalIn_array (P := Tryz.prog) w (d + 1) _ _ Tryz.underlying61 hi]
 rw [show Tryz.prog.cellsOf 5 = 1 by kernel_rfl]
 refine items_self d _ _ (fun i hi => ?_) w
 have hi2 : i < 32 := List.mem_range.1 hi
 refine ⟨f i, ?_⟩
 simp [hashCells, HL, hi2]
theorem neq_self {t : TypeId} {xs : Array Value} (h : Alike0 10000 t (.agg xs)) (w : World) : (binOp .neq t (.agg xs) (.agg xs)).run Tryz.prog w = .ok (.bool false) w := by
 rw [run_neq_struct, h w]
 rfl
theorem neq61 (f : Nat → Int) (w : World) : (binOp .neq 61 (.agg (hashCells (HL f)).toArray) (.agg (hashCells (HL f)).toArray)).run Tryz.prog w = .ok (.bool false) w := neq_self (hash_self 9998 f) w
theorem neq81 (f : Nat → Int) (n : Int) (h : Nat → Int) (w : World) : (binOp .neq 81 (.agg (EF f n h)) (.agg (EF f n h))).run Tryz.prog w = .ok (.bool false) w :=
 neq_self (struct_self 9999 81 _ _ Tryz.underlying81 (by kernel_rfl) ⟨⟨.agg (hashCells (HL f)).toArray, fun w => by kernel_rfl, hash_self 9997 f⟩, ⟨.int .i64 n, fun w => by kernel_rfl, int_self 9998 3 .i64 .i64 n (by kernel_rfl)⟩, ⟨.agg (hashCells (HL h)).toArray, fun w => by kernel_rfl, hash_self 9997 h⟩, trivial⟩) w
theorem cell_self (d : Nat) (z : S68) : Alike0 (d + 2) 68 (.agg #[.int .i64 z.f0, .int .i64 z.f1, .string z.f2]) :=
 struct_self (d + 1) 68 _ _ Tryz.underlying68 (by kernel_rfl) ⟨⟨.int .i64 z.f0, fun w => by kernel_rfl, int_self d 3 .i64 .i64 _ (by kernel_rfl)⟩, ⟨.int .i64 z.f1, fun w => by kernel_rfl, int_self d 2 .i64 .i64 _ (by kernel_rfl)⟩, ⟨.string z.f2, fun w => by kernel_rfl, string_self d 9 _ (by kernel_rfl)⟩, trivial⟩
theorem zone_self (d : Nat) (z : S70) : Alike0 (d + 3) 70 (.agg (zCells z).toArray) :=
 struct_self (d + 2) 70 _ _ Tryz.underlying70 (by kernel_rfl) ⟨⟨.int .i64 z.f0, fun w => by kernel_rfl, int_self (d + 1) 3 .i64 .i64 _ (by kernel_rfl)⟩, ⟨.bool z.f1, fun w => by kernel_rfl, bool_self (d + 1) 4 _ (by kernel_rfl)⟩, ⟨.agg #[.int .i64 z.f2.f0, .int .i64 z.f2.f1, .string z.f2.f2], fun w => by kernel_rfl, cell_self d z.f2⟩, ⟨.agg #[.int .i64 z.f3.f0, .int .i64 z.f3.f1, .string z.f3.f2], fun w => by kernel_rfl, cell_self d z.f3⟩, trivial⟩
theorem neq72 (z : S70) (f : Nat → Int) (w : World) : (binOp .neq 72 (.agg (chCells z f).toArray) (.agg (chCells z f).toArray)).run Tryz.prog w = .ok (.bool false) w :=
 neq_self (struct_self 9999 72 _ _ Tryz.underlying72 (by kernel_rfl) ⟨⟨.agg (zCells z).toArray, fun w => by kernel_rfl, zone_self 9996 z⟩, ⟨.agg (hashCells (HL f)).toArray, fun w => by kernel_rfl, hash_self 9997 f⟩, trivial⟩) w
end
end Go.Proofs.YtjmhiklmlgbifaaGreatDoor.PMan

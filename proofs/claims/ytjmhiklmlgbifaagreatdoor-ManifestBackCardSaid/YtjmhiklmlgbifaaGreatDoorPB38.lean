/- Texts of this proof, put into one, without what it does not use: MuK. -/
import Derived.Test.YtjmhiklmlgbifaaGreatDoorPB37
section
namespace Go.Proofs.YtjmhiklmlgbifaaGreatDoor.PMan
open Go.RowKit Go.Proofs.YtjmhiklmlgbifaaGreatDoorW.PrintWords Go.Proofs.YtjmhiklmlgbifaaGreatDoorW.PrintLast Go.Proofs.YtjmhiklmlgbifaaGreatDoorW.PrintMore
set_option linter.unusedVariables false
set_option linter.unusedSimpArgs false
section
variable {w W W1 : World} {g mb rb : Nat} {s0 : List Int} {q q' : St} {C : Array Value}
theorem mNumber {a : Int} (h : Mr w W g mb rb s0 q C) (e : numQ 1099511627776 s0 q = (a, q')) :
    Calls Tryz.prog 90 #[.pointer (some ⟨g, 0, none⟩)] W fun e w' => e = .returned (.int .i64 a) ∧ Mr w w' g mb rb s0 q' C ∧ KeepBut W w' g none := by
  refine h.lift (R := fun e _ => e = .returned (.int .i64 a)) (fun w0 H => ?_)
  have := qNumber w0 W g s0 q H
  rw [e] at this
  exact this
theorem mSchema {l : List S123} (h : Mr w W g mb rb s0 q C) (e : schQ s0 q = (l, q')) :
    Calls Tryz.prog 91 #[.pointer (some ⟨g, 0, none⟩)] W fun e w' => ∃ A c, e = .returned (.slice A l.length c) ∧ Kd.R k123 123 w' (g + 1) (fun _ => True) (.slice A l.length c) l ∧ Mr w w' g mb rb s0 q' C ∧ KeepBut W w' g none := by
  have hb := h.lt
  refine (h.lift (R := fun e w' => ∃ vv, e = .returned vv ∧ Kd.R k123 123 w' (g + 1) (fun _ => True) vv l) (q' := q') (fun w0 H => ?_)).mono ?_
  · have := qSchema w0 W g s0 q H
    rw [e] at this
    refine this.mono ?_
    rintro e w' ⟨vv, h1, h2, h3, h4⟩
    exact ⟨⟨vv, h1, Kd.R_lower h2 hb⟩, h3, h4⟩
  · rintro e w' ⟨⟨vv, h1, h2⟩, h3, h4⟩
    obtain ⟨A, c, rfl⟩ := Kd.R_slice h2
    exact ⟨A, c, h1, h2, h3, h4⟩
theorem mRows {A : Option Addr} {c : Nat} {s : List S123} {l : List (List S68)} (h : Mr w W g mb rb s0 q C) (hs : Kd.R k123 123 W (g + 1) (fun _ => True) (.slice A s.length c) s) (hl : s.length ≤ 1000000) (e : takeRowsQ s0 s q = (l, q')) :
    Calls Tryz.prog 94 #[.pointer (some ⟨g, 0, none⟩), .slice A s.length c] W fun e w' => ∃ A c, e = .returned (.slice A l.length c) ∧ Kd.R (Kd.slice 68 k68) 89 w' (g + 1) (fun _ => True) (.slice A l.length c) l ∧ Mr w w' g mb rb s0 q' C ∧ KeepBut W w' g none := by
  have hb := h.lt
  refine (h.lift (R := fun e w' => ∃ vv, e = .returned vv ∧ Kd.R (Kd.slice 68 k68) 89 w' (g + 1) (fun _ => True) vv l) (q' := q') (fun w0 H => ?_)).mono ?_
  · have := qRows A c s w0 W g s0 q H (fun W' hk => (Kd.R_reads' (R_past hs (Nat.lt_succ_self g) hk)).2.2) (Kd.R_reads' hs).2.1 hl
    rw [e] at this
    refine this.mono ?_
    rintro e w' ⟨vv, h1, h2, h3, h4⟩
    exact ⟨⟨vv, h1, Kd.R_lower h2 hb⟩, h3, h4⟩
  · rintro e w' ⟨⟨vv, h1, h2⟩, h3, h4⟩
    obtain ⟨A, c, rfl⟩ := Kd.R_slice h2
    exact ⟨A, c, h1, h2, h3, h4⟩
theorem mHead {A : Option Addr} {c : Nat} {s : List S123} {x y : Int} {f : Nat → Int} {cols : List CH} (h : Mr w W g mb rb s0 q C) (hs : Kd.R k123 123 W (g + 1) (fun _ => True) (.slice A s.length c) s) (hl : s.length ≤ 1000000) (e : headQ s0 s q = (⟨x, y, HL f, cols⟩, q')) :
    Calls Tryz.prog 92 #[.pointer (some ⟨g, 0, none⟩), .slice A s.length c] W fun e w' => ∃ A c, e = .returned (.agg (HC x y f A cols.length c)) ∧ Kd.R kCH 72 w' W.heap.size (fun _ => True) (.slice A cols.length c) cols ∧ Mr w w' g mb rb s0 q' C ∧ KeepBut W w' g none := by
  have hb := h.lt
  refine (h.lift (R := fun e w' => ∃ A c, e = .returned (.agg (HC x y f A cols.length c)) ∧ Kd.R kCH 72 w' W.heap.size (fun _ => True) (.slice A cols.length c) cols) (q' := q') (fun w0 H => ?_)).mono ?_
  · have := qHead A c s w0 W g s0 q H (fun W' hk => (Kd.R_reads' (R_past hs (Nat.lt_succ_self g) hk)).2.2) (Kd.R_reads' hs).2.1 hl
    rw [e] at this
    refine this.mono ?_
    rintro e w' ⟨A, c, h1, h0, h2, h3, h4⟩
    exact ⟨⟨A, c, h1, h2⟩, h3, h4⟩
  · rintro e w' ⟨⟨A, c, h1, h2⟩, h3, h4⟩
    exact ⟨A, c, h1, h2, h3, h4⟩
theorem mBlob {l : List Int} (h : Mr w W g mb rb s0 q C) (e : blobQ s0 65536 q = (l, q')) :
    Calls Tryz.prog 93 #[.pointer (some ⟨g, 0, none⟩), .int .i64 65536] W fun e w' => ∃ A c, e = .returned (.slice A l.length c) ∧ Kd.R (Kd.int .u8) 5 w' W.heap.size (fun _ => True) (.slice A l.length c) l ∧ Mr w w' g mb rb s0 q' C ∧ KeepBut W w' g none := by
  have hb := h.lt
  refine (h.lift (R := fun e w' => ∃ vv, e = .returned vv ∧ Kd.R (Kd.int .u8) 5 w' W.heap.size (fun _ => True) vv l) (q' := q') (fun w0 H => ?_)).mono ?_
  · have := qBlob 65536 (by decide) (by decide) w0 W g s0 q H
    rw [e] at this
    refine this.mono ?_
    rintro e w' ⟨vv, h1, h2, h3, h4⟩
    exact ⟨⟨vv, h1, h2⟩, h3, h4⟩
  · rintro e w' ⟨⟨vv, h1, h2⟩, h3, h4⟩
    obtain ⟨A, c, rfl⟩ := Kd.R_slice h2
    exact ⟨A, c, h1, h2, h3, h4⟩
theorem mEnt {x : En} (h : Mr w W g mb rb s0 q C) (e : entQ s0 q = (x, q')) :
    Calls Tryz.prog 95 #[.pointer (some ⟨g, 0, none⟩)] W fun e w' => e = .returned (.agg (enCells x).toArray) ∧ Mr w w' g mb rb s0 q' C ∧ KeepBut W w' g none := by
  refine h.lift (R := fun e _ => e = .returned (.agg (enCells x).toArray)) (fun w0 H => ?_)
  have := qEnt w0 W g s0 q H
  rw [e] at this
  exact this
theorem mEnd (h : Mr w W g mb rb s0 q C) :
    Calls Tryz.prog 96 #[.pointer (some ⟨g, 0, none⟩)] W fun e w' => (∃ p, e = .returned (.tuple #[.int .i64 (endQ s0 q), .int .i64 p])) ∧ Below W.heap.size W w' := by
  refine h.liftB (R := fun e => ∃ p, e = .returned (.tuple #[.int .i64 (endQ s0 q), .int .i64 p])) (fun w0 H => ?_)
  refine (qEnd w0 W g s0 q H).mono ?_
  rintro e w' ⟨p, h1, h2⟩
  exact ⟨⟨p, h1⟩, h2⟩
/-- A store into another block. -/
theorem Mr.setCell (h : Mr w W g mb rb s0 q C) {b t : Nat} {cs : Array Value} (hx : W.heap[b]? = some (.cells cs t (0, 0))) (ht : t ≠ 184) (hb : g < b) (hr : b ≠ rb) (o : Nat) (u : Value) : Mr w (W.setCell ⟨b, o, none⟩ u) g mb rb s0 q C := by
  obtain ⟨⟨w0, h1, h2, h3⟩, hm, hrk, hbl, hmw, hmg, hrg, hnb⟩ := h
  exact ⟨⟨w0, h1.setCell hx ht hb o u, h2, h3⟩, (Below.heap_setCell W _ _ _ (by show mb ≠ b; omega)).trans hm, (Below.heap_setCell W _ _ _ (Ne.symm hr)).trans hrk, hbl.setCell (by show w.heap.size ≤ b; omega) u, hmw, hmg, hrg, hnb⟩
end
def RFL (n x y : Int) (f : Nat → Int) (A : Option Addr) (k c : Nat) (B : Option Addr) (m d : Nat) : List Value := .int .i64 n :: ((.int .i64 x :: .int .i64 y :: (hashCells (HL f) ++ [.slice A k c])) ++ [.slice B m d])
theorem RFL_size (n x y : Int) (f : Nat → Int) (A : Option Addr) (k c : Nat) (B : Option Addr) (m d : Nat) : (RFL n x y f A k c B m d).toArray.size = 37 := by kernel_rfl
theorem RFL_all (n x y : Int) (f : Nat → Int) (A : Option Addr) (k c : Nat) (B : Option Addr) (m d : Nat) : (RFL n x y f A k c B m d).toArray.all (·.oneCell') = true := by kernel_rfl
theorem RFL_36 (n x y : Int) (f : Nat → Int) (A : Option Addr) (k c : Nat) (B : Option Addr) (m d : Nat) : (RFL n x y f A k c B m d).toArray[36]? = some (.slice B m d) := by kernel_rfl
theorem RFL_set (n x y : Int) (f : Nat → Int) (A : Option Addr) (k c : Nat) (B B' : Option Addr) (m d m' d' : Nat) : (RFL n x y f A k c B m d).toArray.setIfInBounds 36 (.slice B' m' d') = (RFL n x y f A k c B' m' d').toArray := by kernel_rfl
theorem kRf_M {W : World} {base : Nat} {ok : Nat → Prop} {n x y : Int} {f : Nat → Int} {A : Option Addr} {c : Nat} {cols : List CH} {B : Option Addr} {d : Nat} {dead : List Int}
    (h1 : Kd.R kCH 72 W base ok (.slice A cols.length c) cols) (h2 : Kd.R (Kd.int .u8) 5 W base ok (.slice B dead.length d) dead) : kRf.M W base ok ⟨n, ⟨x, y, HL f, cols⟩, dead⟩ (RFL n x y f A cols.length c B dead.length d) :=
  ⟨[.int .i64 n], _, rfl, rfl, ⟨.int .i64 x :: .int .i64 y :: (hashCells (HL f) ++ [.slice A cols.length c]), [.slice B dead.length d], rfl, ⟨[.int .i64 x], _, rfl, rfl, ⟨[.int .i64 y], _, rfl, rfl, ⟨hashCells (HL f), [.slice A cols.length c], rfl, ⟨rfl, HL_len f⟩, ⟨_, rfl, h1⟩⟩⟩⟩, ⟨_, rfl, h2⟩⟩⟩
theorem kEn_M {W : World} {base : Nat} {ok : Nat → Prop} {x : En} (h1 : x.s.length = 32) (h2 : x.r.length = 32) : kEn.M W base ok x (enCells x) :=
  ⟨hashCells x.s, _, rfl, ⟨rfl, h1⟩, ⟨[.int .i64 x.g], _, rfl, rfl, ⟨rfl, h2⟩⟩⟩
/-- A store of a whole row, in a region that draws. -/
theorem exec_store_row {P : Program} {oi : Oper} {f : Operand → Value} {W : World} (ty : TypeId) (x y : Operand) (ho : oi.op = .store ty x y) (b : Nat) (cells : Array Value) (hx : f x = .pointer (some ⟨b, 0, none⟩)) (hy : f y = .agg cells)
    (t : TypeId) (old : Array Value) (hg : W.heap[b]? = some (.cells old t (0, 0))) (hi : (P.info? ty).map (·.size) = some cells.size) (hold : old.size = cells.size) (h1 : cells.all (·.oneCell') = true) :
    (execOp f oi).run P W = .ok .skip (W.setRow b cells) := by
  have e := run_storeVar_mid (P := P) W b 0 ty cells (there_row hg (by omega)) hi h1
  rw [setCells_row b t (0, 0) cells.toList 0 W old hg (by simpa using Nat.le_of_eq hold.symm)] at e
  have hr : (old.toList.take 0 ++ cells.toList ++ old.toList.drop (0 + cells.toList.length)).toArray = cells := by
    rw [List.take_zero, List.nil_append, List.drop_eq_nil_of_le (by simp; omega), List.append_nil, Array.toArray_toList]
  rw [hr] at e
  unfold execOp
  simp only [ho, hx, hy, Instr.storeAt, Instr.sureAddr, Sem.run_bind, Sem.run_pure, Result.andThen_ok, e]
/-- An operation that yields a value, by its run. -/
theorem wpList_exec {P : Program} {ops : Array Oper} {rest : List Oper} {o : Oper} {a : Act} {w : World} {Q : Exit → Act → World → Prop} (hgd : o.guard = none) (v : Value) (w1 : World) (he : (execOp a.eval o).run P w = .ok (.value v) w1)
    (h : wpList P ops Q rest (a.put o.dst v) w1) : wpList P ops Q (o :: rest) a w :=
  wpList_plain hgd fun K hK => by
    unfold Oper.wp
    rw [he]
    exact hK _ _ h
abbrev MC (a b : Int) (S : Value) (m : Int) (G L E : Value) : Array Value := #[.int .i64 a, .int .i64 b, S, .int .i64 m, G, L, E]
abbrev nilS : Value := .slice none 0 0
theorem MC_nb (a b m : Int) (S G L E : Option Addr) (n1 c1 n2 c2 n3 c3 n4 c4 : Nat) : ∀ (i : Nat) (x : Int), (MC a b (.slice S n1 c1) m (.slice G n2 c2) (.slice L n3 c3) (.slice E n4 c4))[i]? ≠ some (Value.int .u8 x) := by
  intro i x h
  rcases i with _ | _ | _ | _ | _ | _ | _ | i <;> simp [MC] at h
theorem grpsQ_err {s0 : List Int} {s : List S123} {n : Nat} {l : List Rf} {q : St} (h : q.2.1 ≠ 0) : grpsQ s0 s n l q = (l, q) := by
  cases n with
  | zero => rfl
  | succ n => rw [grpsQ, if_neg h]
theorem entsQ_err {s0 : List Int} {n : Nat} {l : List En} {q : St} (h : q.2.1 ≠ 0) : entsQ s0 n l q = (l, q) := by
  cases n with
  | zero => rfl
  | succ n => rw [entsQ, if_neg h]
theorem entQ_len {s0 : List Int} {q : St} (h : In s0 q) : (entQ s0 q).1.s.length = 32 ∧ (entQ s0 q).1.r.length = 32 := by
  unfold entQ
  dsimp only
  split
  · exact ⟨hashQ_len h, hashQ_len (varQ_in (hashQ_in h))⟩
  · exact ⟨rfl, rfl⟩
end Go.Proofs.YtjmhiklmlgbifaaGreatDoor.PMan
end

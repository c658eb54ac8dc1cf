/- Texts, put into one. -/
import Derived.Test.YtjmhiklmlgbifaaGreatDoorPT18
import Derived.Test.YtjmhiklmlgbifaaGreatDoorPT24
import Derived.Test.YtjmhiklmlgbifaaGreatDoorPTW
set_option linter.unusedVariables false
set_option linter.unusedSimpArgs false
open Go Go.RowKit Go.Proofs.YtjmhiklmlgbifaaGreatDoorW.PrintWords Go.Proofs.YtjmhiklmlgbifaaGreatDoorW.PrintLast Go.Proofs.YtjmhiklmlgbifaaGreatDoorW.PrintMore
namespace Go.Proofs.YtjmhiklmlgbifaaGreatDoor.PMan
section
attribute [local go_sem] max2_int min2_int max_two min_two
structure Rr (w0 w : World) (g : Nat) (s0 : List Int) (q : St) : Prop where
 rd : RR w0 w g s0 q.1 q.2.1 q.2.2
 bel : Below w0.heap.size w0 w
 inn : In s0 q
section
variable {w0 W W1 : World} {g : Nat} {s0 : List Int} {q : St}
theorem Rr.lt (h : Rr w0 W g s0 q) : g < W.heap.size := h.rd.lt
theorem Rr.ge (h : Rr w0 W g s0 q) : w0.heap.size ≤ g := h.rd.ge
theorem Rr.below (h : Rr w0 W g s0 q) (hb : Below W.heap.size W W1) : Rr w0 W1 g s0 q := ⟨h.rd.below hb, below_then h.bel h.bel.size hb, h.inn⟩
theorem Rr.set_at (h : Rr w0 W g s0 q) (x : Int) (h0 : 0 ≤ x) (h1 : x ≤ s0.length) : Rr w0 (W.setCell ⟨g, 1, none⟩ (.int .i64 x)) g s0 (x, q.2) := ⟨h.rd.set_at x, h.bel.setCell h.ge _, h.inn.to h0 h1⟩
theorem Rr.at_ (h : Rr w0 W g s0 q) : W.cell? ⟨g, 1, none⟩ = some (.int .i64 q.1) := by
 obtain ⟨A, c, k1, _⟩ := h.rd
 exact blk_cell k1 1
theorem Rr.err (h : Rr w0 W g s0 q) : W.cell? ⟨g, 2, none⟩ = some (.int .i64 q.2.1) := by
 obtain ⟨A, c, k1, _⟩ := h.rd
 exact blk_cell k1 2
theorem Rr.free (h : Rr w0 W g s0 q) (i : Nat) : W.frozen? ⟨g, i, none⟩ = false := by
 obtain ⟨A, c, k1, _⟩ := h.rd
 exact blk_frozen k1 i
theorem Rr.other (h : Rr w0 W g s0 q) {b : Nat} (hb : g < b) (hos : W1.os = W.os) (htp : W1.tape = W.tape) (hou : W1.output = W.output) (hsz : W.heap.size ≤ W1.heap.size) (hw : ∀ i, i < W.heap.size → i ≠ b → W1.heap[i]? = W.heap[i]?) : Rr w0 W1 g s0 q := by
 have hge := h.ge
 obtain ⟨⟨A, c, k1, k2, k3, k4⟩, hbel, hin⟩ := h
 exact ⟨⟨A, c, (hw g (blk_lt k1) (by omega)).trans k1, k2, k3, k4⟩, ⟨hos.trans hbel.os, htp.trans hbel.tape, hou.trans hbel.output, Nat.le_trans hbel.size hsz, fun k hk => (hw k (Nat.lt_of_lt_of_le hk hbel.size) (by omega)).trans (hbel.block k hk)⟩, hin⟩
theorem Rr.setRow (h : Rr w0 W g s0 q) {b : Nat} (hb : g < b) (c : Array Value) : Rr w0 (W.setRow b c) g s0 q :=
 h.other hb rfl rfl rfl (by rw [setRow_size]; exact Nat.le_refl _) (fun i _ hi => setRow_other W b i c hi)
theorem Rr.setCell (h : Rr w0 W g s0 q) {b : Nat} (hb : g < b) (o : Nat) (u : Value) : Rr w0 (W.setCell ⟨b, o, none⟩ u) g s0 q :=
 h.other hb rfl rfl rfl (by simp [World.setCell]) (fun i _ hi => Below.heap_setCell W _ _ i hi)
theorem Rr.grown {α : Type} {d : Kd α} {e base : Nat} {ok : Nat → Prop} {v : Value} {xs : List α} (h : Rr w0 W g s0 q) (hv : d.R e W base ok v xs) (hb : g < base) (hg : W.grownBy W1 v.ownBlock) : Rr w0 W1 g s0 q := by
 have hge := h.ge
 have hne : ∀ i, i < base → some i ≠ v.ownBlock := fun i hi e => by have := Kd.R_base hv i e.symm; omega
 obtain ⟨⟨A, c, k1, k2, k3, k4⟩, hbel, hin⟩ := h
 refine ⟨⟨A, c, (hg.block g (blk_lt k1) (hne g hb)).trans k1, k2, k3, k4⟩, hbel.grown hg hbel.size (fun k hk => ?_), hin⟩
 have := Kd.R_base hv k hk
 omega
end
set_option maxHeartbeats 1600000 in
set_option maxRecDepth 100000 in
theorem rFail (a1 : Int) (w0 w : World) (g : Nat) (s0 : List Int) (q : St) (h : Rr w0 w g s0 q) :
  Calls Tryz.prog 102 #[.pointer (some ⟨g, 0, none⟩), .int .i64 a1] w fun e w' => e = .returned (.tuple #[]) ∧ Rr w0 w' g s0 (failQ a1 q) ∧ KeepBut w w' g none := by
 by_cases hz : q.2.1 = 0
 ·by_cases ha : a1 = 0
  ·subst ha
   rw [failQ_zero]
   have HR := am h
   have c2 := h.err
   rw [hz] at c2
   clear h
   go_enter Tryz.func102, Tryz.ntmps102
   go_wp2
   go_end0
   exact ⟨rfl, HR.out, KeepBut.refl _ _ _⟩
  ·have hq : failQ a1 q = (q.1, a1, q.1) := by unfold failQ; rw [if_pos hz, if_neg ha]
   rw [hq]
   have hrd := h.rd
   rw [hz] at hrd
   refine (rr_fail g s0 q.1 q.2.2 a1 w0 w hrd ha).mono ?_
   rintro e w' ⟨he, h1, h2, h3⟩
   exact ⟨he, ⟨h1, h.bel.trans h3, h.inn.same rfl⟩, h2⟩
 ·rw [failQ_err hz]
  have HR := am h
  have c2 := h.err
  have hb : (q.2.1 == 0) = false := beq_eq_false_iff_ne.2 hz
  generalize q.2.1 = x at *
  clear h hz
  go_enter Tryz.func102, Tryz.ntmps102
  go_wp2
  go_end0
  exact ⟨rfl, HR.out, KeepBut.refl _ _ _⟩
theorem takeR_p {w0 w : World} {g : Nat} {s0 : List Int} {q : St} (n : Int) (hn : 0 ≤ n) (h : Rr w0 w g s0 q) : estreatref01_Reader_Take.f s0 q.1 q.2.1 q.2.2 n = some (takeQ s0 n q) := by
 have h0 := h.inn.lo
 have h1 := h.inn.hi
 have h2 := h.inn.len
 unfold estreatref01_Reader_Take.f takeQ
 by_cases e : q.2.1 = 0
 ·rw [if_pos e, if_pos e, if_neg (by omega), if_pos h0, if_pos h1]
  by_cases hl : (s0.length : Int) - q.1 < n
  ·rw [if_pos hl, if_pos hl]
  ·rw [if_neg hl, if_neg hl, if_pos (by omega)]
 ·rw [if_neg e, if_neg e]
theorem rTake (n : Int) (hn : 0 ≤ n) (w0 w : World) (g : Nat) (s0 : List Int) (q : St) (h : Rr w0 w g s0 q) :
  Calls Tryz.prog 100 #[.pointer (some ⟨g, 0, none⟩), .int .i64 n] w fun e w' => ∃ vv, e = .returned vv ∧ Kd.R (Kd.int .u8) 5 w' w.heap.size (fun _ => True) vv (takeQ s0 n q).1 ∧ Rr w0 w' g s0 (takeQ s0 n q).2 ∧ KeepBut w w' g none := by
 refine (estreatref01_Reader_Take.calls g s0 _ _ _ n _ _ _ _ w0 w h.rd h.bel (takeR_p n hn h)).mono ?_
 rintro e w' ⟨vv, he, h0, h1, h2, h3⟩
 exact ⟨vv, he, h0, ⟨h1, h2, takeQ_in n hn h.inn⟩, h3⟩
set_option maxHeartbeats 1600000 in
set_option maxRecDepth 100000 in
theorem rFix (w0 w : World) (g : Nat) (s0 : List Int) (q : St) (h : Rr w0 w g s0 q) :
  Calls Tryz.prog 99 #[.pointer (some ⟨g, 0, none⟩), .int .i64 1] w fun e w' => e = .returned (.int .u64 (fixQ s0 q).1) ∧ Rr w0 w' g s0 (fixQ s0 q).2 ∧ KeepBut w w' g none := by
 have HT := am (rTake 1 (by decide) w0 w g s0 q h)
 have hl := takeQ_len 1 (by decide) h.inn
 have hb := takeQ_by 1 h.inn
 unfold fixQ
 clear h
 obtain ⟨l, q1, hkq⟩ : ∃ a b, takeQ s0 1 q = (a, b) := ⟨_, _, rfl⟩
 rw [hkq] at hl hb HT
 rw [hkq]
 dsimp only at hl hb HT ⊢
 match l, hl, hb, HT with
 | [], _, _, HT =>
  go_enter Tryz.func99, Tryz.ntmps99
  go_wp2_with fail
  refine HT.out.mono ?_
  rintro e w1 ⟨vv, rfl, hr, h1, h2⟩
  obtain ⟨A, c, rfl⟩ := Kd.R_slice hr
  have H1 := am h1
  have H2 := am h2
  clear hr h1 h2
  go_wp2
  go_rounds 1
  go_ret
  exact ⟨rfl, H1.out, H2.out⟩
 | [x], _, hb, HT =>
  have hx := hb x (List.mem_cons_self ..)
  have e1 : IntKind.u64.wrap x = x := u64_small x hx.1 (by omega)
  go_enter Tryz.func99, Tryz.ntmps99
  go_wp2_with fail
  refine HT.out.mono ?_
  rintro e w1 ⟨vv, rfl, hr, h1, h2⟩
  obtain ⟨gb, cap, rfl, _⟩ := Kd.R_form hr (by simp)
  have c0 : w1.cell? ⟨gb, 0, none⟩ = some (.int .u8 x) := (Kd.R_cell (0 : Int) hr 0 (by omega) (by simp)).1
  have H1 := am h1
  have H2 := am h2
  clear hr h1 h2
  go_wp2
  go_rounds 2
  go_ret
  refine ⟨?_, H1.out, H2.out⟩
  first | rfl | (simp [e1]; done)
 | x :: y :: r, hl, _, _ => rcases hl with ⟨hl, _⟩ | ⟨hl, _⟩ <;> simp at hl
set_option maxHeartbeats 1600000 in
set_option maxRecDepth 100000 in
theorem rVar (w0 w : World) (g : Nat) (s0 : List Int) (q : St) (h : Rr w0 w g s0 q) :
  Calls Tryz.prog 101 #[.pointer (some ⟨g, 0, none⟩)] w fun e w' => e = .returned (.int .u64 (varQ s0 q).1) ∧ Rr w0 w' g s0 (varQ s0 q).2 ∧ KeepBut w w' g none := by
 have HR := am h
 have h0 := h.inn.lo
 have h1 := h.inn.hi
 have hb := h.inn.len
 have hby := h.inn.by_
 obtain ⟨r, hr⟩ : ∃ r, r = varQ s0 q := ⟨_, rfl⟩
 rw [← hr]
 by_cases hz : q.2.1 = 0
 ·have hsp := look_p (s0.drop q.1.toNat) (hby.drop _) (by rw [List.length_drop]; omega)
  have hsf := shortP_facts (s0.drop q.1.toNat) (hby.drop _)
  have hlen : (s0.drop q.1.toNat).length = s0.length - q.1.toNat := List.length_drop
  unfold varQ varS at hr
  rw [if_pos hz] at hr
  obtain ⟨A, c, k1, k2, k3, k4⟩ := h.rd
  obtain ⟨i0, hi0, hz0⟩ := Option.map_eq_some_iff.1 clone_info
  simp only [Prod.mk.injEq] at hz0
  obtain ⟨A', hcut, hcr, hcl⟩ := print_cut_int (P := Tryz.prog) (k := .u8) 30 5 Tryz.underlying30 hi0 hz0.2.1 A c s0 q.1 h0 h1 k4
  rw [hz] at k1
  have hc0 := blk_cell k1 0
  have hc1 := blk_cell k1 1
  have hc2 := blk_cell k1 2
  simp only [List.getElem?_toArray] at hc0 hc1 hc2
  have KR := am (show Kd.C (Kd.int .u8) w0 A' (s0.drop q.1.toNat).length (s0.drop q.1.toNat) from Kd.C_of_reads (d := (0 : Int)) (h1 := fun _ => rfl) (hcr w0 (Kd.reads_of_C k3)))
  have KR2 : Aside0 (Kd.C (Kd.int .u8) w.drew A' (s0.drop q.1.toNat).length (s0.drop q.1.toNat)) := am (Kd.C_below KR.out (below_drew h.bel))
  have KC := am hcl
  have HL := am hlen
  clear k1 k2 k3 k4 hcr hcl hz0 hi0 hby hlen h
  generalize s0.drop q.1.toNat = out at *
  obtain ⟨v, n, ec, hq⟩ : ∃ v n ec, shortP out = (v, n, ec) := ⟨_, _, _, rfl⟩
  rw [hq] at hr hsp hsf
  have KS := am hsp
  have HRES := am hr
  have HF := am hsf
  have HZ := am hz
  clear hsp hr hsf hz
  obtain ⟨q0, qe, qp⟩ := q
  dsimp only at *
  go_enter Tryz.func101, Tryz.ntmps101
  go_wp2_with fail
  have hc0 : w.drew.cell? ⟨g, 0, none⟩ = some (.slice A s0.length c) := hc0
  have hc1 : w.drew.cell? ⟨g, 1, none⟩ = some (.int .i64 q0) := hc1
  have HRD : Aside0 (Rr w0 w.drew g s0 (q0, qe, qp)) := am (HR.out.below (below_drew (Below.refl _ _)))
  have HKD : Aside0 (KeepBut w w.drew g none) := am (KeepBut.of_below (below_drew (Below.refl w.heap.size w)) g none)
  refine start_ (n := 17) (S := fun w' => w'.cell? ⟨g, 0, none⟩ = some (.slice A s0.length c) ∧ w'.cell? ⟨g, 1, none⟩ = some (.int .i64 q0)) (ds := []) #[false, false, false, false, false, false, false, false, false, false, false, false, false, false, false, false, false] (by kernel_rfl) rfl rfl ⟨hc0, hc1⟩ (fun hHeld => ?_)
  generalize w.drew = W2 at *
  refine pu 0 (some 12) ?_ ?_ ?_ ?_ ?_
  rotate_left 2
  ·intro w'
   go_simp
   with_reducible rfl
  ·simp only [Act.put, sA1, sA2, sA3, i64_w, i32_w]
   rfl
  refine pu 1 (some 13) ?_ ?_ ?_ ?_ ?_
  rotate_left 2
  ·intro w'
   go_simp
   with_reducible rfl
  ·simp only [Act.put, sA1, sA2, sA3, i64_w, i32_w]
   rfl
  refine pu 2 (some 14) ?_ ?_ ?_ ?_ ?_
  rotate_left 2
  ·intro w'
   go_simp
   with_reducible rfl
  ·simp only [Act.put, sA1, sA2, sA3, i64_w, i32_w]
   rfl
  refine pu 4 (some 16) ?_ ?_ ?_ ?_ ?_
  rotate_left 2
  ·intro w'
   go_simp
   with_reducible rfl
  ·simp only [Act.put, sA1, sA2, sA3, i64_w, i32_w]
   rfl
  refine pu 5 (some 17) ?_ ?_ ?_ ?_ ?_
  rotate_left 2
  ·intro w'
   go_simp
   with_reducible rfl
  ·simp only [Act.put, sA1, sA2, sA3, i64_w, i32_w]
   rfl
  refine pu 6 (some 18) ?_ ?_ ?_ ?_ ?_
  rotate_left 2
  ·intro w'
   go_simp
   with_reducible rfl
  ·simp only [Act.put, sA1, sA2, sA3, i64_w, i32_w]
   rfl
  refine tk 3 (some 15) ?_ ?_ hHeld ?_ ?_ ?_
  rotate_left 2
  ·rintro w' ⟨s0, s1⟩
   go_simp
   with_reducible rfl
  ·simp only [Act.put, sA1, sA2, sA3, i64_w, i32_w]
   rfl
  refine tk 7 (some 19) ?_ ?_ hHeld ?_ ?_ ?_
  rotate_left 2
  ·rintro w' ⟨s0, s1⟩
   go_simp
   with_reducible rfl
  ·simp only [Act.put, sA1, sA2, sA3, i64_w, i32_w]
   rfl
  refine pu 8 (some 20) ?_ ?_ ?_ ?_ ?_
  rotate_left 2
  ·intro w'
   go_simp
   with_reducible rfl
  ·simp only [Act.put, sA1, sA2, sA3, i64_w, i32_w]
   rfl
  refine on (i := 9) (N := some 21) rfl rfl (by kernel_rfl) (by decide) (fun K hK => ?_)
  refine goes_ Tryz.func106 (by kernel_rfl) rfl #[.slice A' out.length (c - q0.toNat)] (by rfl) rfl rfl (by simp only [List.map_toArray, List.map_cons, List.map_nil]; rfl) ?_
  with_reducible refine (estreatref01_look.calls _ A' _ out _ _ _ W2 KR2.out KC.out KS.out).mono ?_
  rintro e w3 ⟨rfl, ⟨nd, rfl⟩⟩
  refine ⟨_, rfl, ?_⟩
  have HB3 := am (pw_below_drewN (Below.refl W2.heap.size W2) nd)
  generalize W2.drewN nd = W3 at *
  refine hK.out _ _ ⟨pw_cell_below HB3.out hc0, pw_cell_below HB3.out hc1⟩ (fun hHeld => ?_)
  clear hK K
  refine norm_ (a' := ?_) ?_ ?_
  rotate_left
  ·show Act.put _ (some 21) _ = _
   simp only [Act.put, sA1, sA2, sA3, i64_w, i32_w]
   rfl
  refine pu 10 (some 11) ?_ ?_ ?_ ?_ ?_
  rotate_left 2
  ·intro w'
   go_simp
   with_reducible rfl
  ·simp only [Act.put, sA1, sA2, sA3, i64_w, i32_w]
   rfl
  refine pu 11 (some 22) ?_ ?_ ?_ ?_ ?_
  rotate_left 2
  ·intro w'
   go_simp
   with_reducible rfl
  ·simp only [Act.put, sA1, sA2, sA3, i64_w, i32_w]
   rfl
  refine pu 12 (some 23) ?_ ?_ ?_ ?_ ?_
  rotate_left 2
  ·intro w'
   go_simp
   with_reducible rfl
  ·simp only [Act.put, sA1, sA2, sA3, i64_w, i32_w]
   rfl
  refine pu 13 (some 24) ?_ ?_ ?_ ?_ ?_
  rotate_left 2
  ·intro w'
   go_simp
   with_reducible rfl
  ·simp only [Act.put, sA1, sA2, sA3, i64_w, i32_w]
   rfl
  refine pu 14 (some 3) ?_ ?_ ?_ ?_ ?_
  rotate_left 2
  ·intro w'
   go_simp
   with_reducible rfl
  ·simp only [Act.put, sA1, sA2, sA3, i64_w, i32_w]
   rfl
  refine pu 15 (some 4) ?_ ?_ ?_ ?_ ?_
  rotate_left 2
  ·intro w'
   go_simp
   with_reducible rfl
  ·simp only [Act.put, sA1, sA2, sA3, i64_w, i32_w]
   rfl
  refine pu 16 (some 5) ?_ ?_ ?_ ?_ ?_
  rotate_left 2
  ·intro w'
   go_simp
   with_reducible rfl
  ·simp only [Act.put, sA1, sA2, sA3, i64_w, i32_w]
   rfl
  refine done_ (by kernel_rfl) ?_
  have HR3 := am (HRD.out.below HB3.out)
  have HK3 := am (KeepBut.rbelow HKD.out HB3.out)
  clear hc0 hc1 hc2
  obtain rfl := HZ.out
  have hF := rFail ec w0 W3 g s0 (q0, 0, qp) HR3.out
  by_cases he : ec = 0
  ·subst he
   obtain ⟨f1, f2, f3, f4⟩ := HF.out.2.2 rfl
   have f4 : n ≤ (out.length : Int) := f4
   have f3 : 0 < n := f3
   have hL := HL.out
   have hw : wrap64 (q0 + n) = q0 + n := by unfold wrap64; omega
   have HW := am (show 0 ≤ q0 + n ∧ q0 + n ≤ s0.length by omega)
   have hR := HRES.out
   rw [if_pos rfl] at hR
   have HRR := am hR
   rw [failQ_zero] at hF
   have HFL := am hF
   clear hR f1 f2 f3 f4 hL hF
   go_wp2_with fail
   refine HFL.out.mono ?_
   rintro e w5 ⟨rfl, hr5, hk5⟩
   have HR5 := am hr5
   have HK5 := am (keep_then HK3.out hk5)
   have d1 : w5.cell? ⟨g, 1, none⟩ = some (.int .i64 q0) := hr5.at_
   have d2 := hr5.free 1
   clear hr5 hk5
   go_wp2
   go_ret
   rw [HRR.out]
   exact ⟨rfl, HR5.out.set_at (q0 + n) HW.out.1 HW.out.2, HK5.out.set_ 1 _⟩
  ·have hnv := HF.out.2.1 he
   obtain ⟨rfl, rfl⟩ : v = 0 ∧ n = 0 := hnv
   have hR := HRES.out
   rw [if_neg he] at hR
   have HRR := am hR
   have hq : failQ ec (q0, 0, qp) = (q0, ec, q0) := by unfold failQ; rw [if_pos rfl, if_neg he]
   rw [hq] at hF
   have HFL := am hF
   have hw : wrap64 q0 = q0 := by unfold wrap64; omega
   have HW := am (show 0 ≤ q0 ∧ q0 ≤ s0.length by omega)
   clear hR he hF hq
   go_wp2_with fail
   refine HFL.out.mono ?_
   rintro e w5 ⟨rfl, hr5, hk5⟩
   have HR5 := am hr5
   have HK5 := am (keep_then HK3.out hk5)
   have d1 : w5.cell? ⟨g, 1, none⟩ = some (.int .i64 q0) := hr5.at_
   have d2 := hr5.free 1
   clear hr5 hk5
   go_wp2
   go_ret
   rw [HRR.out]
   exact ⟨rfl, HR5.out.set_at q0 HW.out.1 HW.out.2, HK5.out.set_ 1 _⟩
 ·have hf : (q.2.1 != 0) = true := by simpa using hz
  unfold varQ varS at hr
  rw [if_neg hz] at hr
  have HRES := am hr
  have c2 := h.err
  clear hr hz h
  go_enter Tryz.func101, Tryz.ntmps101
  go_wp2
  go_ret
  rw [HRES.out]
  exact ⟨rfl, HR.out, KeepBut.refl _ _ _⟩
set_option maxHeartbeats 1600000 in
set_option maxRecDepth 100000 in
theorem rNumber57 (w0 w : World) (g : Nat) (s0 : List Int) (q : St) (h : Rr w0 w g s0 q) :
  Calls Tryz.prog 57 #[.pointer (some ⟨g, 0, none⟩)] w fun e w' => e = .returned (.int .i64 (numQ 1099511627776 s0 q).1) ∧ Rr w0 w' g s0 (numQ 1099511627776 s0 q).2 ∧ KeepBut w w' g none := by
 have hc := rVar w0 w g s0 q h
 have hv := varQ_range h.inn
 unfold numQ upN
 generalize varQ s0 q = r at *
 obtain ⟨v, q1⟩ := r
 dsimp only at hc hv ⊢
 have HC := am hc
 clear hc h
 by_cases hl : v > 1099511627776
 ·rw [if_pos hl]
  go_enter Tryz.func57, Tryz.ntmps57
  go_wp2_with fail
  refine HC.out.mono ?_
  rintro e w1 ⟨rfl, k⟩
  have K := am k
  clear k
  go_wp2
  go_ret
  exact ⟨rfl, K.out⟩
 ·rw [if_neg hl]
  have hw : wrap64 v = v := by unfold wrap64; omega
  go_enter Tryz.func57, Tryz.ntmps57
  go_wp2_with fail
  refine HC.out.mono ?_
  rintro e w1 ⟨rfl, k⟩
  have K := am k
  clear k
  go_wp2
  go_ret
  exact ⟨rfl, K.out⟩
set_option maxHeartbeats 1600000 in
set_option maxRecDepth 100000 in
theorem rNumber103 (w0 w : World) (g : Nat) (s0 : List Int) (q : St) (h : Rr w0 w g s0 q) :
  Calls Tryz.prog 103 #[.pointer (some ⟨g, 0, none⟩)] w fun e w' => e = .returned (.int .i64 (numQ 65536 s0 q).1) ∧ Rr w0 w' g s0 (numQ 65536 s0 q).2 ∧ KeepBut w w' g none := by
 have hc := rVar w0 w g s0 q h
 have hv := varQ_range h.inn
 unfold numQ upN
 generalize varQ s0 q = r at *
 obtain ⟨v, q1⟩ := r
 dsimp only at hc hv ⊢
 have HC := am hc
 clear hc h
 by_cases hl : v > 65536
 ·rw [if_pos hl]
  go_enter Tryz.func103, Tryz.ntmps103
  go_wp2_with fail
  refine HC.out.mono ?_
  rintro e w1 ⟨rfl, k⟩
  have K := am k
  clear k
  go_wp2
  go_ret
  exact ⟨rfl, K.out⟩
 ·rw [if_neg hl]
  have hw : wrap64 v = v := by unfold wrap64; omega
  go_enter Tryz.func103, Tryz.ntmps103
  go_wp2_with fail
  refine HC.out.mono ?_
  rintro e w1 ⟨rfl, k⟩
  have K := am k
  clear k
  go_wp2
  go_ret
  exact ⟨rfl, K.out⟩
end
end Go.Proofs.YtjmhiklmlgbifaaGreatDoor.PMan

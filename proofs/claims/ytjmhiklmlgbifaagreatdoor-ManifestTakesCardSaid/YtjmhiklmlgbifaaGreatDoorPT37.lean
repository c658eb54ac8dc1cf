/- Texts, put into one. -/
import Derived.Test.YtjmhiklmlgbifaaGreatDoorPT30
import Derived.Test.YtjmhiklmlgbifaaGreatDoorPTW
set_option linter.unusedVariables false
set_option linter.unusedSimpArgs false
open Go Go.RowKit Go.Proofs.YtjmhiklmlgbifaaGreatDoorW.PrintWords Go.Proofs.YtjmhiklmlgbifaaGreatDoorW.PrintLast Go.Proofs.YtjmhiklmlgbifaaGreatDoorW.PrintMore
namespace Go.Proofs.YtjmhiklmlgbifaaGreatDoor.PMan
section
attribute [local go_sem] max2_int min2_int max_two min_two max_three min_three max_four min_four
def truncW (W : World) (g : Nat) : World := { W with heap := W.heap.extract 0 g }
theorem truncW_size (W : World) (g : Nat) (h : g ≤ W.heap.size) : (truncW W g).heap.size = g := by
 show (W.heap.extract 0 g).size = g
 rw [Array.size_extract]
 omega
theorem truncW_at (W : World) (g k : Nat) (h : g ≤ W.heap.size) (hk : k < g) : (truncW W g).heap[k]? = W.heap[k]? := by
 show (W.heap.extract 0 g)[k]? = W.heap[k]?
 rw [Array.getElem?_extract, if_pos (by omega), Nat.zero_add]
theorem C_move_int {w0 W : World} {A : Option Addr} {n : Nat} {l : List Int} (h : Kd.C (Kd.int .u8) w0 A n l) (hm : ∀ ad : Addr, A = some ad → 0 < n → W.heap[ad.block]? = w0.heap[ad.block]?) : Kd.C (Kd.int .u8) W A n l := by
 refine ⟨h.1, h.2.1, fun hn => ?_⟩
 obtain ⟨ad, e, hc⟩ := h.2.2 hn
 refine ⟨ad, e, fun j p hj => ?_⟩
 obtain ⟨c, h1, h2, h3⟩ := hc j p hj
 refine ⟨c, h1, h2, fun i u hu => ?_⟩
 refine (World.cell?_of_block (w := w0) ?_).trans (h3 i u hu)
 rw [add_block]
 exact hm ad e hn
def RDB (mb : Nat) (W : World) (g : Nat) (l : List Int) (a : Int) : Prop := ∃ w0, RD w0 W g l a 0 0 ∧ Below w0.heap.size w0 W ∧ ErrT w0 ∧ mb < w0.heap.size ∧ 0 ≠ mb
theorem RDB.below {mb : Nat} {W W1 : World} {g : Nat} {l : List Int} {a : Int} (h : RDB mb W g l a) (hb : Below W.heap.size W W1) : RDB mb W1 g l a := by
 obtain ⟨w0, h1, h2, h3, h4, h5⟩ := h
 exact ⟨w0, h1.below hb, below_then h2 h2.size hb, h3, h4, h5⟩
theorem RDB.errT {mb : Nat} {W : World} {g : Nat} {l : List Int} {a : Int} (h : RDB mb W g l a) : ErrT W := by
 obtain ⟨w0, h1, h2, h3, h4, h5⟩ := h
 exact h3.of_below h2
theorem RDB.lt {mb : Nat} {W : World} {g : Nat} {l : List Int} {a : Int} (h : RDB mb W g l a) : mb < g ∧ g < W.heap.size := by
 obtain ⟨w0, h1, h2, h3, h4, h5⟩ := h
 obtain ⟨A, c, ev, k1, k2, k3, k4, k5⟩ := h1
 exact ⟨by omega, blk_lt k1⟩
theorem RDB.store {mb : Nat} {W W1 : World} {g : Nat} {l : List Int} {a : Int} {cs : Array Value} {t : TypeId} (h : RDB mb W g l a) (hl : 0 < l.length) (hm : W.heap[mb]? = some (.cells cs t (0, 0))) (hcs : ∀ (i : Nat) (x : Int), cs[i]? ≠ some (Value.int .u8 x)) (hW : KeepBut W W1 mb none) : RDB mb W1 g l a := by
 obtain ⟨w0, hr, hb, hG, hmb, he⟩ := h
 have hglt := hr.lt
 obtain ⟨A, c, ev, k1, k2, k3, k4, k5⟩ := hr
 have hgm : g ≠ mb := by omega
 have hW1g := hW.2 g hglt hgm (by simp)
 have hgl1 : g ≤ W1.heap.size := by have := hW.1; omega
 have hET := hG.lt
 refine ⟨truncW W1 g, ⟨A, c, ev, hW1g.trans k1, Nat.le_of_eq (truncW_size W1 g hgl1), ?_, k4, ?_⟩, ⟨rfl, rfl, rfl, ?_, ?_⟩, ?_, ?_, he⟩
 ·refine C_move_int k3 (fun ad hA hn => ?_)
  obtain ⟨ad', hA', hcell⟩ := Kd.at_int k3 0 (by decide) (by omega)
  have hadd : ad' = ad := by rw [hA] at hA'; exact (Option.some.inj hA').symm
  subst hadd
  have hlt : ad'.block < w0.heap.size := by
   have := World.block_lt_of_cell? _ _ hcell
   rwa [add_block] at this
  have hW0 : W.heap[ad'.block]? = w0.heap[ad'.block]? := hb.block _ hlt
  have hne : ad'.block ≠ mb := fun e => by
   have hcW : W.cell? (ad'.add (Int.toNat 0)) = some (.int .u8 (rd l 0)) := (World.cell?_of_block (w := w0) (by rw [add_block]; exact hW0)).trans hcell
   unfold World.cell? at hcW
   rw [add_block, e, hm] at hcW
   dsimp only at hcW
   split at hcW
   ·cases hcW
   ·exact hcs _ _ hcW
  exact (truncW_at W1 g _ hgl1 (by omega)).trans ((hW.2 _ (by have := hb.size; omega) hne (by simp)).trans hW0)
 ·rcases k5 with ⟨_, _, hev⟩ | ⟨hne, _⟩
  ·exact .inl ⟨rfl, rfl, hev⟩
  ·exact absurd rfl hne
 ·rw [truncW_size W1 g hgl1]; exact hgl1
 ·intro k hk
  rw [truncW_size W1 g hgl1] at hk
  exact (truncW_at W1 g k hgl1 hk).symm
 ·exact (World.cell?_of_block (w := w0) ((truncW_at W1 g _ hgl1 (by show 0 < g; omega)).trans ((hW.2 _ (by have := hb.size; show 0 < _; omega) he (by simp)).trans (hb.block _ hET)))).trans hG
 ·rw [truncW_size W1 g hgl1]; omega
theorem base_call {w w0 W W1 : World} {n g : Nat} (hb : Below w.heap.size w W) (h0 : Below n w0 W) (h1 : Below n w0 W1) (hk : KeepBut W W1 g none) (hg : w.heap.size ≤ g) : Below w.heap.size w W1 :=
 ⟨h1.os.trans (h0.os.symm.trans hb.os), h1.tape.trans (h0.tape.symm.trans hb.tape), h1.output.trans (h0.output.symm.trans hb.output), Nat.le_trans hb.size hk.1,
  fun k hk2 => (hk.2 k (Nat.lt_of_lt_of_le hk2 hb.size) (by omega) (by simp)).trans (hb.block k hk2)⟩
theorem keep_blk {W W1 : World} {g b : Nat} {o : Obj} (hk : KeepBut W W1 g none) (hb : W.heap[b]? = some o) (hne : b ≠ g) : W1.heap[b]? = some o := (hk.2 b (blk_lt hb) hne (by simp)).trans hb
def RCall (W W1 : World) (g : Nat) : Prop := KeepBut W W1 g none ∧ ∀ w : World, Below w.heap.size w W → w.heap.size ≤ g → Below w.heap.size w W1
theorem RCall.of_below {W W1 : World} {g : Nat} (h : Below W.heap.size W W1) : RCall W W1 g := ⟨KeepBut.of_below h g none, fun _ hb _ => below_then hb hb.size h⟩
theorem RCall.of {w0 W W1 : World} {g : Nat} (h0 : Below w0.heap.size w0 W) (h1 : Below w0.heap.size w0 W1) (hk : KeepBut W W1 g none) : RCall W W1 g := ⟨hk, fun _ hb hg => base_call hb h0 h1 hk hg⟩
theorem mr_number (mb g : Nat) (a v n a' : Int) (W : World) (ha : a + n = a') (H : RDB mb W g leastL a) (h0 : 0 ≤ a) (h1 : a ≤ leastL.length) (hn : wrap64 (a + n) = a + n) (hf : num_short.f 3 (leastL.drop a.toNat) = some (v, n, 0)) (hv : 0 ≤ v) (hv2 : v ≤ 1099511627776) :
  Calls Tryz.prog 90 #[.pointer (some ⟨g, 0, none⟩)] W fun e w' => e = .returned (.int .i64 v) ∧ RDB mb w' g leastL a' ∧ RCall W w' g := by
 subst ha
 obtain ⟨w0, hI, hB, hG, hm, he⟩ := H
 refine (rd_number 3 g leastL a v n w0 W hI hB h0 h1 hn hf hv hv2).mono ?_
 rintro e w' ⟨rfl, k1, k2, k3⟩
 exact ⟨rfl, ⟨w0, k1, k2, hG, hm, he⟩, RCall.of hB k2 k3⟩
theorem mr_schema (mb g : Nat) (W : World) (H : RDB mb W g leastL 3) :
  Calls Tryz.prog 91 #[.pointer (some ⟨g, 0, none⟩)] W fun e w' => ∃ s c, e = .returned (.slice (some ⟨s, 0, none⟩) 1 c) ∧ 1 ≤ c ∧ Kd.C k123 w' (some ⟨s, 0, none⟩) 1 [⟨1, false, -1⟩] ∧ W.heap.size ≤ s ∧ s < w'.heap.size ∧ RDB mb w' g leastL 7 ∧ RCall W w' g := by
 obtain ⟨w0, hI, hB, hG, hm, he⟩ := H
 refine (rd_takeSchema g w0 W hG hI hB).mono ?_
 rintro e w' ⟨s, c, rfl, k1, k2, k3, k4, k5, k6, k7⟩
 exact ⟨s, c, rfl, k1, k2, k3, k4, ⟨w0, k5, k6, hG, hm, he⟩, RCall.of hB k6 k7⟩
theorem mr_rows (mb s c g : Nat) (W : World) (H : RDB mb W g leastL 8) :
  Calls Tryz.prog 94 #[.pointer (some ⟨g, 0, none⟩), .slice (some ⟨s, 0, none⟩) 1 c] W fun e w' => e = .returned (.slice none 0 0) ∧ RDB mb w' g leastL 9 ∧ RCall W w' g := by
 obtain ⟨w0, hI, hB, hG, hm, he⟩ := H
 refine (rd_takeRows s c g w0 W hG hI hB).mono ?_
 rintro e w' ⟨rfl, k5, k6, k7⟩
 exact ⟨rfl, ⟨w0, k5, k6, hG, hm, he⟩, RCall.of hB k6 k7⟩
theorem mr_entry (mb g : Nat) (W : World) (H : RDB mb W g leastL 10) :
  Calls Tryz.prog 95 #[.pointer (some ⟨g, 0, none⟩)] W fun e w' => e = .returned (.agg Tryz.zeroCells81) ∧ RDB mb w' g leastL 75 ∧ RCall W w' g := by
 obtain ⟨w0, hI, hB, hG, hm, he⟩ := H
 refine (rd_ledTake g w0 W hG hI hB).mono ?_
 rintro e w' ⟨rfl, k5, k6, k7⟩
 exact ⟨rfl, ⟨w0, k5, k6, hG, hm, he⟩, RCall.of hB k6 k7⟩
theorem mr_err (mb g : Nat) (a : Int) (W : World) (H : RDB mb W g leastL a) :
  Calls Tryz.prog 89 #[.pointer (some ⟨g, 0, none⟩)] W fun e w' => e = .returned (.tuple #[.int .i64 0, .int .i64 0]) ∧ Below W.heap.size W w' := by
 have hG := H.errT
 obtain ⟨w0, hI, hB, _, hm, he⟩ := H
 exact rd_err g leastL a 0 0 w0 W hG hI
theorem mr_end (mb g : Nat) (W : World) (H : RDB mb W g leastL 75) :
  Calls Tryz.prog 96 #[.pointer (some ⟨g, 0, none⟩)] W fun e w' => e = .returned (.tuple #[.int .i64 0, .int .i64 0]) ∧ Below W.heap.size W w' := by
 have hG := H.errT
 obtain ⟨w0, hI, hB, _, hm, he⟩ := H
 exact rd_end g leastL 75 w0 W hG hI (by decide +kernel)
abbrev MCells (a b : Int) (S : Value) (m : Int) (E : Value) : Array Value := #[.int .i64 a, .int .i64 b, S, .int .i64 m, .slice none 0 0, .slice none 0 0, E]
theorem mc_no (a b m : Int) (A B : Option Addr) (n c n' c' : Nat) : ∀ (i : Nat) (x : Int), (MCells a b (.slice A n c) m (.slice B n' c'))[i]? ≠ some (Value.int .u8 x) := by
 intro i x h
 rcases i with _ | _ | _ | _ | _ | _ | _ | i <;> simp [MCells] at h
theorem C_move_col {W W1 : World} {s : Nat} {n : Nat} {l : List S123} (h : Kd.C k123 W (some ⟨s, 0, none⟩) n l) (hm : W1.heap[s]? = W.heap[s]?) : Kd.C k123 W1 (some ⟨s, 0, none⟩) n l := by
 refine ⟨h.1, h.2.1, fun hn => ?_⟩
 obtain ⟨ad, e, hc⟩ := h.2.2 hn
 obtain rfl := Option.some.inj e
 refine ⟨_, rfl, fun j p hj => ?_⟩
 obtain ⟨c, h1, h2, h3⟩ := hc j p hj
 refine ⟨c, h1, h2, fun i u hu => ?_⟩
 refine (World.cell?_of_block (w := W) ?_).trans (h3 i u hu)
 rw [add_block]
 exact hm
theorem EntC.move {W W1 : World} {e : Nat} (h : EntC W e) (hm : W1.heap[e]? = W.heap[e]?) : EntC W1 e := fun i x hx => (World.cell?_of_block (w := W) hm).trans (h i x hx)
theorem EntC.of_raw {W : World} {e : Nat} (h : Kd.C (Kd.raw 65) W (some ⟨e, 0, none⟩) 1 [Tryz.zeroCells81.toList]) : EntC W e := fun i x hx => by
 obtain ⟨ad, he, hc⟩ := h.2.2 (by decide)
 obtain rfl := Option.some.inj he
 obtain ⟨c, h1, ⟨h2, _⟩, h3⟩ := hc 0 Tryz.zeroCells81.toList rfl
 subst h2
 have := h3 i x hx
 have hadd : (⟨e, 0, none⟩ : Addr).add (0 * (Kd.raw 65).sz + i) = ⟨e, 0 + i, none⟩ := by
  show (⟨e, 0, none⟩ : Addr).add (0 * 65 + i) = _
  rw [show 0 * 65 + i = i from by omega]
  exact (Addr.add_mid e 0 i).trans (by rw [Nat.zero_add])
 rwa [hadd] at this
theorem results_cr_tmp {P : Program} {fn : Func} {p u : Tmp} {ty : TypeId} (h : fn.results = #[.cell p ty, .tmp u]) (tmps : Array Value) (w : World) (g : Nat) (t : TypeId) (cs : Array Value) (fr : Nat × Nat) (d : TypeDesc)
  (hp : tmps.getD p undef = .pointer (some ⟨g, 0, none⟩)) (hg : w.heap[g]? = some (.cells cs t fr))
  (hu : P.underlying ty = some d) (hd : (match d with | .struct _ | .array _ _ => true | _ => false) = true) (hi : (P.info? ty).map (·.size) = some cs.size) :
  (results fn tmps).run P w = .ok (.tuple #[.agg cs, tmps.getD u undef]) w := by
 have hp' : tmps[p]?.getD undef = .pointer (some ⟨g, 0, none⟩) := by simpa using hp
 simp [results, h, hp', asAddr, run_loadVar_row w g t ty cs fr d hg hu hd hi]
set_option maxHeartbeats 1600000 in
set_option maxRecDepth 100000 in
theorem m_goodf (mb rb g : Nat) (a : Int) (W : World) (H : RDB mb W g leastL a) (hp : W.heap[rb]? = some (.cells #[.pointer (some ⟨g, 0, none⟩)] 146 (0, 0))) :
  Calls Tryz.prog 88 #[.pointer (some ⟨rb, 0, none⟩)] W fun e w' => e = .returned (.bool true) ∧ Below W.heap.size W w' := by
 have HH := am H
 have hrb : W.cell? ⟨rb, 0, none⟩ = some (.pointer (some ⟨g, 0, none⟩)) := blk_cell hp 0
 clear H hp
 go_enter Tryz.func88, Tryz.ntmps88
 go_wp2_with fail
 refine (mr_err mb g a W HH.out).mono ?_
 rintro e w' ⟨rfl, hb⟩
 have HB := am hb
 clear hb
 go_wp2
 go_ret
 exact ⟨rfl, HB.out⟩
end
section
def Rx (mb : Nat) (W : World) (g : Nat) (s0 : List Int) (q : St) : Prop := ∃ w0, Rs w0 W g s0 q ∧ mb < w0.heap.size ∧ 0 ≠ mb
theorem Rx.below {mb : Nat} {W W1 : World} {g : Nat} {s0 : List Int} {q : St} (h : Rx mb W g s0 q) (hb : Below W.heap.size W W1) : Rx mb W1 g s0 q := by
 obtain ⟨w0, h1, h2, h3⟩ := h
 exact ⟨w0, h1.below hb, h2, h3⟩
theorem Rx.store {mb : Nat} {W W1 : World} {g : Nat} {s0 : List Int} {q : St} {cs : Array Value} {t : TypeId} (h : Rx mb W g s0 q) (hm : W.heap[mb]? = some (.cells cs t (0, 0))) (hcs : ∀ (i : Nat) (x : Int), cs[i]? ≠ some (Value.int .u8 x)) (hW : KeepBut W W1 mb none) : Rx mb W1 g s0 q := by
 obtain ⟨w0, ⟨⟨A, c, ev, k1, k2, k3, k4, k5⟩, hb, hG, hin⟩, hmb, he⟩ := h
 have hle : w0.heap.size ≤ W1.heap.size := Nat.le_trans hb.size hW.1
 have hET := hG.lt
 have hsz := truncW_size W1 w0.heap.size hle
 refine ⟨truncW W1 w0.heap.size, ⟨⟨A, c, ev, (hW.2 g (blk_lt k1) (by omega) (by simp)).trans k1, by rw [hsz]; exact k2, ?_, k4, ?_⟩, ⟨rfl, rfl, rfl, by rw [hsz]; exact hle, ?_⟩, ?_, hin⟩, by rw [hsz]; exact hmb, he⟩
 ·refine C_move_int k3 (fun ad hA hn => ?_)
  obtain ⟨ad', hA', hcell⟩ := Kd.at_int k3 0 (by decide) (by omega)
  have hadd : ad' = ad := by rw [hA] at hA'; exact (Option.some.inj hA').symm
  subst hadd
  have hlt : ad'.block < w0.heap.size := by
   have := World.block_lt_of_cell? _ _ hcell
   rwa [add_block] at this
  have hW0 : W.heap[ad'.block]? = w0.heap[ad'.block]? := hb.block _ hlt
  have hne : ad'.block ≠ mb := fun e => by
   have hcW : W.cell? (ad'.add (Int.toNat 0)) = some (.int .u8 (rd s0 0)) := (World.cell?_of_block (w := w0) (by rw [add_block]; exact hW0)).trans hcell
   unfold World.cell? at hcW
   rw [add_block, e, hm] at hcW
   dsimp only at hcW
   split at hcW
   ·cases hcW
   ·exact hcs _ _ hcW
  exact (truncW_at W1 w0.heap.size _ hle hlt).trans ((hW.2 _ (by have := hb.size; omega) hne (by simp)).trans hW0)
 ·rcases k5 with h5 | ⟨hne, k, hk, e5, h5⟩
  ·exact .inl h5
  ·exact .inr ⟨hne, k, by rw [hsz]; exact hk, e5, (hW.2 k (blk_lt h5) (by omega) (by simp)).trans h5⟩
 ·intro k hk
  rw [hsz] at hk
  exact (truncW_at W1 w0.heap.size k hle hk).symm
 ·exact (World.cell?_of_block (w := w0) ((truncW_at W1 w0.heap.size _ hle hET).trans ((hW.2 _ (by have := hb.size; omega) he (by simp)).trans (hb.block _ hET)))).trans hG
structure Mr (w W : World) (g mb rb : Nat) (s0 : List Int) (q : St) (C : Array Value) : Prop where
 rx : Rx mb W g s0 q
 mbk : W.heap[mb]? = some (.cells C 27 (0, 0))
 rbk : W.heap[rb]? = some (.cells #[.pointer (some ⟨g, 0, none⟩)] 146 (0, 0))
 bel : Below w.heap.size w W
 mw : w.heap.size ≤ mb
 mg : mb < g
 rg : g < rb
 nb : ∀ (i : Nat) (x : Int), C[i]? ≠ some (Value.int .u8 x)
section
variable {w W W1 : World} {g mb rb : Nat} {s0 : List Int} {q q' : St} {C : Array Value}
theorem Mr.inn (h : Mr w W g mb rb s0 q C) : In s0 q := by
 obtain ⟨⟨w0, h1, _⟩, _⟩ := h
 exact h1.inn
theorem Mr.lt (h : Mr w W g mb rb s0 q C) : g < W.heap.size := by
 obtain ⟨⟨w0, h1, _⟩, _⟩ := h
 exact h1.lt
theorem Mr.rcell (h : Mr w W g mb rb s0 q C) : W.cell? ⟨rb, 0, none⟩ = some (.pointer (some ⟨g, 0, none⟩)) := blk_cell h.rbk 0
theorem Mr.mcell (h : Mr w W g mb rb s0 q C) (i : Nat) : W.cell? ⟨mb, i, none⟩ = C[i]? := blk_cell h.mbk i
theorem Mr.mfree (h : Mr w W g mb rb s0 q C) (i : Nat) : W.frozen? ⟨mb, i, none⟩ = false := blk_frozen h.mbk i
theorem Mr.below (h : Mr w W g mb rb s0 q C) (hb : Below W.heap.size W W1) : Mr w W1 g mb rb s0 q C :=
 ⟨h.rx.below hb, (hb.block _ (blk_lt h.mbk)).trans h.mbk, (hb.block _ (blk_lt h.rbk)).trans h.rbk, below_then h.bel h.bel.size hb, h.mw, h.mg, h.rg, h.nb⟩
theorem Mr.store (h : Mr w W g mb rb s0 q C) (i : Nat) (v : Value) (hv : ∀ x, v ≠ .int .u8 x) : Mr w (W.setCell ⟨mb, i, none⟩ v) g mb rb s0 q (C.setIfInBounds i v) := by
 have hk : KeepBut W (W.setCell ⟨mb, i, none⟩ v) mb none := (KeepBut.refl _ _ _).set_ i v
 refine ⟨h.rx.store h.mbk h.nb hk, ?_, KeepBut.at_ hk h.rbk (by have := h.mg; have := h.rg; omega), h.bel.setCell h.mw v, h.mw, h.mg, h.rg, ?_⟩
 ·rw [setCell_eq_setRow _ _ _ _ _ _ _ h.mbk]
  exact setRow_heap _ _ _ _ _ _ h.mbk
 ·intro j x hj
  rw [Array.getElem?_setIfInBounds] at hj
  split at hj
  ·split at hj
   ·exact hv x (Option.some.inj hj)
   ·cases hj
  ·exact h.nb j x hj
theorem Mr.grown {α : Type} {d : Kd α} {e : Nat} {ok : Nat → Prop} {v : Value} {xs : List α} (h : Mr w W g mb rb s0 q C) (hv : d.R e W (g + 1) ok v xs) (he : e ≠ 184) (h27 : e ≠ 27) (h146 : e ≠ 146) (hg : W.grownBy W1 v.ownBlock) : Mr w W1 g mb rb s0 q C := by
 have hlt := h.lt
 obtain ⟨⟨w0, h1, h2, h3⟩, hm, hr, hb, hmw, hmg, hrg, hnb⟩ := h
 refine ⟨⟨w0, h1.grown hv (Nat.lt_succ_self g) hlt he hg, h2, h3⟩, (hg.block _ (blk_lt hm) (Kd.R_ne hv hm h27)).trans hm, (hg.block _ (blk_lt hr) (Kd.R_ne hv hr h146)).trans hr, hb.grown hg hb.size (fun k hk => ?_), hmw, hmg, hrg, hnb⟩
 have := Kd.R_base hv k hk
 omega
theorem Mr.lift {f : FuncId} {args : Array Value} {R : Ending → World → Prop} (h : Mr w W g mb rb s0 q C) (hc : ∀ w0, Rs w0 W g s0 q → Calls Tryz.prog f args W fun e w' => R e w' ∧ Rs w0 w' g s0 q' ∧ KeepBut W w' g none) :
  Calls Tryz.prog f args W fun e w' => R e w' ∧ Mr w w' g mb rb s0 q' C ∧ KeepBut W w' g none := by
 obtain ⟨⟨w0, h1, h2, h3⟩, hm, hr, hb, hmw, hmg, hrg, hnb⟩ := h
 refine (hc w0 h1).mono ?_
 rintro e w' ⟨k1, k2, k3⟩
 exact ⟨k1, ⟨⟨w0, k2, h2, h3⟩, KeepBut.at_ k3 hm (by omega), KeepBut.at_ k3 hr (by omega), base_call hb h1.bel k2.bel k3 (by omega), hmw, hmg, hrg, hnb⟩, k3⟩
theorem Mr.liftB {f : FuncId} {args : Array Value} {R : Ending → Prop} (h : Mr w W g mb rb s0 q C) (hc : ∀ w0, Rs w0 W g s0 q → Calls Tryz.prog f args W fun e w' => R e ∧ Below W.heap.size W w') :
  Calls Tryz.prog f args W fun e w' => R e ∧ Below W.heap.size W w' := by
 obtain ⟨⟨w0, h1, h2, h3⟩, hm, hr, hb, hmw, hmg, hrg, hnb⟩ := h
 exact hc w0 h1
end
section
variable {α β : Type} {d : Kd α} {d' : Kd β} {e e' base base' : Nat} {ok ok' : Nat → Prop} {w W W1 : World} {g mb rb : Nat} {s0 : List Int} {q : St} {C : Array Value} {v u : Value} {xs : List α} {ys : List β}
theorem R_store (h : d.R e W base ok v xs) (hm : Mr w W g mb rb s0 q C) (ht : ∀ t, t ∈ e :: d.E → t ≠ 27) (i : Nat) (x : Value) : d.R e (W.setCell ⟨mb, i, none⟩ x) base ok v xs := Kd.R_set h hm.mbk ht i x
end
set_option maxHeartbeats 1600000 in
set_option maxRecDepth 100000 in
theorem mGood {w W : World} {g mb rb : Nat} {s0 : List Int} {q : St} {C : Array Value} (h : Mr w W g mb rb s0 q C) :
  Calls Tryz.prog 88 #[.pointer (some ⟨rb, 0, none⟩)] W fun e w' => e = .returned (.bool (q.2.1 == 0)) ∧ Below W.heap.size W w' := by
 have HH := am (h.liftB (R := fun e => e = .returned (.tuple #[.int .i64 q.2.1, .int .i64 q.2.2])) (fun w0 H => qErr w0 W g s0 q H))
 have hrb := h.rcell
 clear h
 generalize q.2.1 = x at *
 generalize q.2.2 = y at *
 go_enter Tryz.func88, Tryz.ntmps88
 go_wp2_with fail
 refine HH.out.mono ?_
 rintro e w' ⟨rfl, hb⟩
 have HB := am hb
 clear hb
 go_wp2
 go_ret
 exact ⟨rfl, HB.out⟩
end
section
section
variable {w W W1 : World} {g mb rb : Nat} {s0 : List Int} {q q' : St} {C : Array Value}
theorem mNumber {a : Int} (h : Mr w W g mb rb s0 q C) (e : numQ 1099511627776 s0 q = (a, q')) :
  Calls Tryz.prog 90 #[.pointer (some ⟨g, 0, none⟩)] W fun e w' => e = .returned (.int .i64 a) ∧ Mr w w' g mb rb s0 q' C ∧ KeepBut W w' g none := by
 refine h.lift (R := fun e _ => e = .returned (.int .i64 a)) (fun w0 H => ?_)
 have := qNumber w0 W g s0 q H
 rw [e] at this
 exact this
theorem mSchema {l : List S123} (h : Mr w W g mb rb s0 q C) (e : schQ s0 q = (l, q')) :
  Calls Tryz.prog 91 #[.pointer (some ⟨g, 0, none⟩)] W fun e w' => ∃ A c, e = .returned (.slice A l.length c) ∧ Kd.R k123 123 w' (g + 1) (fun _ => True) (.slice A l.length c) l ∧ Mr w w' g mb rb s0 q' C ∧ KeepBut W w' g none := by
 have hb := h.lt
 refine (h.lift (R := fun e w' => ∃ vv, e = .returned vv ∧ Kd.R k123 123 w' (g + 1) (fun _ => True) vv l) (q' := q') (fun w0 H => ?_)).mono ?_
 ·have := qSchema w0 W g s0 q H
  rw [e] at this
  refine this.mono ?_
  rintro e w' ⟨vv, h1, h2, h3, h4⟩
  exact ⟨⟨vv, h1, Kd.R_lower h2 hb⟩, h3, h4⟩
 ·rintro e w' ⟨⟨vv, h1, h2⟩, h3, h4⟩
  obtain ⟨A, c, rfl⟩ := Kd.R_slice h2
  exact ⟨A, c, h1, h2, h3, h4⟩
theorem mRows {A : Option Addr} {c : Nat} {s : List S123} {l : List (List S68)} (h : Mr w W g mb rb s0 q C) (hs : Kd.R k123 123 W (g + 1) (fun _ => True) (.slice A s.length c) s) (hl : s.length ≤ 1000000) (e : takeRowsQ s0 s q = (l, q')) :
  Calls Tryz.prog 94 #[.pointer (some ⟨g, 0, none⟩), .slice A s.length c] W fun e w' => ∃ A c, e = .returned (.slice A l.length c) ∧ Kd.R (Kd.slice 68 k68) 89 w' (g + 1) (fun _ => True) (.slice A l.length c) l ∧ Mr w w' g mb rb s0 q' C ∧ KeepBut W w' g none := by
 have hb := h.lt
 refine (h.lift (R := fun e w' => ∃ vv, e = .returned vv ∧ Kd.R (Kd.slice 68 k68) 89 w' (g + 1) (fun _ => True) vv l) (q' := q') (fun w0 H => ?_)).mono ?_
 ·have := qRows A c s w0 W g s0 q H (fun W' hk => (Kd.R_reads' (R_past hs (Nat.lt_succ_self g) hk)).2.2) (Kd.R_reads' hs).2.1 hl
  rw [e] at this
  refine this.mono ?_
  rintro e w' ⟨vv, h1, h2, h3, h4⟩
  exact ⟨⟨vv, h1, Kd.R_lower h2 hb⟩, h3, h4⟩
 ·rintro e w' ⟨⟨vv, h1, h2⟩, h3, h4⟩
  obtain ⟨A, c, rfl⟩ := Kd.R_slice h2
  exact ⟨A, c, h1, h2, h3, h4⟩
theorem mHead {A : Option Addr} {c : Nat} {s : List S123} {x y : Int} {f : Nat → Int} {cols : List CH} (h : Mr w W g mb rb s0 q C) (hs : Kd.R k123 123 W (g + 1) (fun _ => True) (.slice A s.length c) s) (hl : s.length ≤ 1000000) (e : headQ s0 s q = (⟨x, y, HL f, cols⟩, q')) :
  Calls Tryz.prog 92 #[.pointer (some ⟨g, 0, none⟩), .slice A s.length c] W fun e w' => ∃ A c, e = .returned (.agg (HC x y f A cols.length c)) ∧ Kd.R kCH 72 w' W.heap.size (fun _ => True) (.slice A cols.length c) cols ∧ Mr w w' g mb rb s0 q' C ∧ KeepBut W w' g none := by
 have hb := h.lt
 refine (h.lift (R := fun e w' => ∃ A c, e = .returned (.agg (HC x y f A cols.length c)) ∧ Kd.R kCH 72 w' W.heap.size (fun _ => True) (.slice A cols.length c) cols) (q' := q') (fun w0 H => ?_)).mono ?_
 ·have := qHead A c s w0 W g s0 q H (fun W' hk => (Kd.R_reads' (R_past hs (Nat.lt_succ_self g) hk)).2.2) (Kd.R_reads' hs).2.1 hl
  rw [e] at this
  refine this.mono ?_
  rintro e w' ⟨A, c, h1, h0, h2, h3, h4⟩
  exact ⟨⟨A, c, h1, h2⟩, h3, h4⟩
 ·rintro e w' ⟨⟨A, c, h1, h2⟩, h3, h4⟩
  exact ⟨A, c, h1, h2, h3, h4⟩
theorem mBlob {l : List Int} (h : Mr w W g mb rb s0 q C) (e : blobQ s0 65536 q = (l, q')) :
  Calls Tryz.prog 93 #[.pointer (some ⟨g, 0, none⟩), .int .i64 65536] W fun e w' => ∃ A c, e = .returned (.slice A l.length c) ∧ Kd.R (Kd.int .u8) 5 w' W.heap.size (fun _ => True) (.slice A l.length c) l ∧ Mr w w' g mb rb s0 q' C ∧ KeepBut W w' g none := by
 have hb := h.lt
 refine (h.lift (R := fun e w' => ∃ vv, e = .returned vv ∧ Kd.R (Kd.int .u8) 5 w' W.heap.size (fun _ => True) vv l) (q' := q') (fun w0 H => ?_)).mono ?_
 ·have := qBlob 65536 (by decide) (by decide) w0 W g s0 q H
  rw [e] at this
  refine this.mono ?_
  rintro e w' ⟨vv, h1, h2, h3, h4⟩
  exact ⟨⟨vv, h1, h2⟩, h3, h4⟩
 ·rintro e w' ⟨⟨vv, h1, h2⟩, h3, h4⟩
  obtain ⟨A, c, rfl⟩ := Kd.R_slice h2
  exact ⟨A, c, h1, h2, h3, h4⟩
theorem mEnt {x : En} (h : Mr w W g mb rb s0 q C) (e : entQ s0 q = (x, q')) :
  Calls Tryz.prog 95 #[.pointer (some ⟨g, 0, none⟩)] W fun e w' => e = .returned (.agg (enCells x).toArray) ∧ Mr w w' g mb rb s0 q' C ∧ KeepBut W w' g none := by
 refine h.lift (R := fun e _ => e = .returned (.agg (enCells x).toArray)) (fun w0 H => ?_)
 have := qEnt w0 W g s0 q H
 rw [e] at this
 exact this
theorem mEnd (h : Mr w W g mb rb s0 q C) :
  Calls Tryz.prog 96 #[.pointer (some ⟨g, 0, none⟩)] W fun e w' => (∃ p, e = .returned (.tuple #[.int .i64 (endQ s0 q), .int .i64 p])) ∧ Below W.heap.size W w' := by
 refine h.liftB (R := fun e => ∃ p, e = .returned (.tuple #[.int .i64 (endQ s0 q), .int .i64 p])) (fun w0 H => ?_)
 refine (qEnd w0 W g s0 q H).mono ?_
 rintro e w' ⟨p, h1, h2⟩
 exact ⟨⟨p, h1⟩, h2⟩
theorem Mr.setCell (h : Mr w W g mb rb s0 q C) {b t : Nat} {cs : Array Value} (hx : W.heap[b]? = some (.cells cs t (0, 0))) (ht : t ≠ 184) (hb : g < b) (hr : b ≠ rb) (o : Nat) (u : Value) : Mr w (W.setCell ⟨b, o, none⟩ u) g mb rb s0 q C := by
 obtain ⟨⟨w0, h1, h2, h3⟩, hm, hrk, hbl, hmw, hmg, hrg, hnb⟩ := h
 exact ⟨⟨w0, h1.setCell hx ht hb o u, h2, h3⟩, (Below.heap_setCell W _ _ _ (by show mb ≠ b; omega)).trans hm, (Below.heap_setCell W _ _ _ (Ne.symm hr)).trans hrk, hbl.setCell (by show w.heap.size ≤ b; omega) u, hmw, hmg, hrg, hnb⟩
end
def RFL (n x y : Int) (f : Nat → Int) (A : Option Addr) (k c : Nat) (B : Option Addr) (m d : Nat) : List Value := .int .i64 n :: ((.int .i64 x :: .int .i64 y :: (hashCells (HL f) ++ [.slice A k c])) ++ [.slice B m d])
theorem RFL_size (n x y : Int) (f : Nat → Int) (A : Option Addr) (k c : Nat) (B : Option Addr) (m d : Nat) : (RFL n x y f A k c B m d).toArray.size = 37 := by kernel_rfl
theorem RFL_all (n x y : Int) (f : Nat → Int) (A : Option Addr) (k c : Nat) (B : Option Addr) (m d : Nat) : (RFL n x y f A k c B m d).toArray.all (·.oneCell') = true := by kernel_rfl
theorem RFL_36 (n x y : Int) (f : Nat → Int) (A : Option Addr) (k c : Nat) (B : Option Addr) (m d : Nat) : (RFL n x y f A k c B m d).toArray[36]? = some (.slice B m d) := by kernel_rfl
theorem RFL_set (n x y : Int) (f : Nat → Int) (A : Option Addr) (k c : Nat) (B B' : Option Addr) (m d m' d' : Nat) : (RFL n x y f A k c B m d).toArray.setIfInBounds 36 (.slice B' m' d') = (RFL n x y f A k c B' m' d').toArray := by kernel_rfl
theorem kRf_M {W : World} {base : Nat} {ok : Nat → Prop} {n x y : Int} {f : Nat → Int} {A : Option Addr} {c : Nat} {cols : List CH} {B : Option Addr} {d : Nat} {dead : List Int}
  (h1 : Kd.R kCH 72 W base ok (.slice A cols.length c) cols) (h2 : Kd.R (Kd.int .u8) 5 W base ok (.slice B dead.length d) dead) : kRf.M W base ok ⟨n, ⟨x, y, HL f, cols⟩, dead⟩ (RFL n x y f A cols.length c B dead.length d) :=
 ⟨[.int .i64 n], _, rfl, rfl, ⟨.int .i64 x :: .int .i64 y :: (hashCells (HL f) ++ [.slice A cols.length c]), [.slice B dead.length d], rfl, ⟨[.int .i64 x], _, rfl, rfl, ⟨[.int .i64 y], _, rfl, rfl, ⟨hashCells (HL f), [.slice A cols.length c], rfl, ⟨rfl, HL_len f⟩, ⟨_, rfl, h1⟩⟩⟩⟩, ⟨_, rfl, h2⟩⟩⟩
theorem kEn_M {W : World} {base : Nat} {ok : Nat → Prop} {x : En} (h1 : x.s.length = 32) (h2 : x.r.length = 32) : kEn.M W base ok x (enCells x) :=
 ⟨hashCells x.s, _, rfl, ⟨rfl, h1⟩, ⟨[.int .i64 x.g], _, rfl, rfl, ⟨rfl, h2⟩⟩⟩
theorem exec_store_row {P : Program} {oi : Oper} {f : Operand → Value} {W : World} (ty : TypeId) (x y : Operand) (ho : oi.op = .store ty x y) (b : Nat) (cells : Array Value) (hx : f x = .pointer (some ⟨b, 0, none⟩)) (hy : f y = .agg cells)
  (t : TypeId) (old : Array Value) (hg : W.heap[b]? = some (.cells old t (0, 0))) (hi : (P.info? ty).map (·.size) = some cells.size) (hold : old.size = cells.size) (h1 : cells.all (·.oneCell') = true) :
  (execOp f oi).run P W = .ok .skip (W.setRow b cells) := by
 have e := run_storeVar_mid (P := P) W b 0 ty cells (there_row hg (by omega)) hi h1
 rw [setCells_row b t (0, 0) cells.toList 0 W old hg (by simpa using Nat.le_of_eq hold.symm)] at e
 have hr : (old.toList.take 0 ++ cells.toList ++ old.toList.drop (0 + cells.toList.length)).toArray = cells := by
  rw [List.take_zero, List.nil_append, List.drop_eq_nil_of_le (by simp; omega), List.append_nil, Array.toArray_toList]
 rw [hr] at e
 unfold execOp
 simp only [ho, hx, hy, Instr.storeAt, Instr.sureAddr, Sem.run_bind, Sem.run_pure, Result.andThen_ok, e]
theorem wpList_exec {P : Program} {ops : Array Oper} {rest : List Oper} {o : Oper} {a : Act} {w : World} {Q : Exit → Act → World → Prop} (hgd : o.guard = none) (v : Value) (w1 : World) (he : (execOp a.eval o).run P w = .ok (.value v) w1)
  (h : wpList P ops Q rest (a.put o.dst v) w1) : wpList P ops Q (o :: rest) a w :=
 wpList_plain hgd fun K hK => by
  unfold Oper.wp
  rw [he]
  exact hK _ _ h
abbrev MC (a b : Int) (S : Value) (m : Int) (G L E : Value) : Array Value := #[.int .i64 a, .int .i64 b, S, .int .i64 m, G, L, E]
abbrev nilS : Value := .slice none 0 0
theorem MC_nb (a b m : Int) (S G L E : Option Addr) (n1 c1 n2 c2 n3 c3 n4 c4 : Nat) : ∀ (i : Nat) (x : Int), (MC a b (.slice S n1 c1) m (.slice G n2 c2) (.slice L n3 c3) (.slice E n4 c4))[i]? ≠ some (Value.int .u8 x) := by
 intro i x h
 rcases i with _ | _ | _ | _ | _ | _ | _ | i <;> simp [MC] at h
theorem grpsQ_err {s0 : List Int} {s : List S123} {n : Nat} {l : List Rf} {q : St} (h : q.2.1 ≠ 0) : grpsQ s0 s n l q = (l, q) := by
 cases n with
 | zero => rfl
 | succ n => rw [grpsQ, if_neg h]
theorem entsQ_err {s0 : List Int} {n : Nat} {l : List En} {q : St} (h : q.2.1 ≠ 0) : entsQ s0 n l q = (l, q) := by
 cases n with
 | zero => rfl
 | succ n => rw [entsQ, if_neg h]
theorem entQ_len {s0 : List Int} {q : St} (h : In s0 q) : (entQ s0 q).1.s.length = 32 ∧ (entQ s0 q).1.r.length = 32 := by
 unfold entQ
 dsimp only
 split
 ·exact ⟨hashQ_len h, hashQ_len (varQ_in (hashQ_in h))⟩
 ·exact ⟨rfl, rfl⟩
end
end Go.Proofs.YtjmhiklmlgbifaaGreatDoor.PMan

/- Texts of this proof, put into one, without what it does not use: ManH, ManI, PManx14, PManx15, ManJ, PManx2. -/
import Derived.Test.YtjmhiklmlgbifaaGreatDoorPU14
import Derived.Outline
import Derived.Test.YtjmhiklmlgbifaaGreatDoorPU2
import Derived.Test.YtjmhiklmlgbifaaGreatDoorPU3
import Derived.Test.YtjmhiklmlgbifaaGreatDoorPU12
import Derived.Test.YtjmhiklmlgbifaaGreatDoorPU13
section
namespace Go.Proofs.YtjmhiklmlgbifaaGreatDoor.PMan
open Go.RowKit Go.Proofs.YtjmhiklmlgbifaaGreatDoorW.PrintWords Go.Proofs.YtjmhiklmlgbifaaGreatDoorW.PrintLast Go.Proofs.YtjmhiklmlgbifaaGreatDoorW.PrintMore
attribute [local go_sem] max2_int min2_int max_two min_two max_three min_three max_four min_four   -- for this text's walks alone
set_option linter.unusedVariables false
set_option linter.unusedSimpArgs false
/-- What lies before block g. -/
def truncW (W : World) (g : Nat) : World := { W with heap := W.heap.extract 0 g }
theorem truncW_size (W : World) (g : Nat) (h : g ≤ W.heap.size) : (truncW W g).heap.size = g := by
  show (W.heap.extract 0 g).size = g
  rw [Array.size_extract]
  omega
theorem truncW_at (W : World) (g k : Nat) (h : g ≤ W.heap.size) (hk : k < g) : (truncW W g).heap[k]? = W.heap[k]? := by
  show (W.heap.extract 0 g)[k]? = W.heap[k]?
  rw [Array.getElem?_extract, if_pos (by omega), Nat.zero_add]
/-- Numbers that are read at addresses of which no block turned. -/
theorem C_move_int {w0 W : World} {A : Option Addr} {n : Nat} {l : List Int} (h : Kd.C (Kd.int .u8) w0 A n l) (hm : ∀ ad : Addr, A = some ad → 0 < n → W.heap[ad.block]? = w0.heap[ad.block]?) : Kd.C (Kd.int .u8) W A n l := by
  refine ⟨h.1, h.2.1, fun hn => ?_⟩
  obtain ⟨ad, e, hc⟩ := h.2.2 hn
  refine ⟨ad, e, fun j p hj => ?_⟩
  obtain ⟨c, h1, h2, h3⟩ := hc j p hj
  refine ⟨c, h1, h2, fun i u hu => ?_⟩
  refine (World.cell?_of_block (w := w0) ?_).trans (h3 i u hu)
  rw [add_block]
  exact hm ad e hn
/-- A reader without an error; block mb may be written beside it. -/
def RDB (mb : Nat) (W : World) (g : Nat) (l : List Int) (a : Int) : Prop := ∃ w0, RD w0 W g l a 0 0 ∧ Below w0.heap.size w0 W ∧ ErrT w0 ∧ mb < w0.heap.size ∧ 0 ≠ mb
theorem RDB.below {mb : Nat} {W W1 : World} {g : Nat} {l : List Int} {a : Int} (h : RDB mb W g l a) (hb : Below W.heap.size W W1) : RDB mb W1 g l a := by
  obtain ⟨w0, h1, h2, h3, h4, h5⟩ := h
  exact ⟨w0, h1.below hb, below_then h2 h2.size hb, h3, h4, h5⟩
theorem RDB.errT {mb : Nat} {W : World} {g : Nat} {l : List Int} {a : Int} (h : RDB mb W g l a) : ErrT W := by
  obtain ⟨w0, h1, h2, h3, h4, h5⟩ := h
  exact h3.of_below h2
theorem RDB.lt {mb : Nat} {W : World} {g : Nat} {l : List Int} {a : Int} (h : RDB mb W g l a) : mb < g ∧ g < W.heap.size := by
  obtain ⟨w0, h1, h2, h3, h4, h5⟩ := h
  obtain ⟨A, c, ev, k1, k2, k3, k4, k5⟩ := h1
  exact ⟨by omega, blk_lt k1⟩
theorem RDB.store {mb : Nat} {W W1 : World} {g : Nat} {l : List Int} {a : Int} {cs : Array Value} {t : TypeId} (h : RDB mb W g l a) (hl : 0 < l.length) (hm : W.heap[mb]? = some (.cells cs t (0, 0))) (hcs : ∀ (i : Nat) (x : Int), cs[i]? ≠ some (Value.int .u8 x)) (hW : KeepBut W W1 mb none) : RDB mb W1 g l a := by
  obtain ⟨w0, hr, hb, hG, hmb, he⟩ := h
  have hglt := hr.lt
  obtain ⟨A, c, ev, k1, k2, k3, k4, k5⟩ := hr
  have hgm : g ≠ mb := by omega
  have hW1g := hW.2 g hglt hgm (by simp)
  have hgl1 : g ≤ W1.heap.size := by have := hW.1; omega
  have hET := hG.lt
  refine ⟨truncW W1 g, ⟨A, c, ev, hW1g.trans k1, Nat.le_of_eq (truncW_size W1 g hgl1), ?_, k4, ?_⟩, ⟨rfl, rfl, rfl, ?_, ?_⟩, ?_, ?_, he⟩
  · refine C_move_int k3 (fun ad hA hn => ?_)
    obtain ⟨ad', hA', hcell⟩ := Kd.at_int k3 0 (by decide) (by omega)
    have hadd : ad' = ad := by rw [hA] at hA'; exact (Option.some.inj hA').symm
    subst hadd
    have hlt : ad'.block < w0.heap.size := by
      have := World.block_lt_of_cell? _ _ hcell
      rwa [add_block] at this
    have hW0 : W.heap[ad'.block]? = w0.heap[ad'.block]? := hb.block _ hlt
    have hne : ad'.block ≠ mb := fun e => by
      have hcW : W.cell? (ad'.add (Int.toNat 0)) = some (.int .u8 (rd l 0)) := (World.cell?_of_block (w := w0) (by rw [add_block]; exact hW0)).trans hcell
      unfold World.cell? at hcW
      rw [add_block, e, hm] at hcW
      dsimp only at hcW
      split at hcW
      · cases hcW
      · exact hcs _ _ hcW
    exact (truncW_at W1 g _ hgl1 (by omega)).trans ((hW.2 _ (by have := hb.size; omega) hne (by simp)).trans hW0)
  · rcases k5 with ⟨_, _, hev⟩ | ⟨hne, _⟩
    · exact .inl ⟨rfl, rfl, hev⟩
    · exact absurd rfl hne
  · rw [truncW_size W1 g hgl1]; exact hgl1
  · intro k hk
    rw [truncW_size W1 g hgl1] at hk
    exact (truncW_at W1 g k hgl1 hk).symm
  · exact (World.cell?_of_block (w := w0) ((truncW_at W1 g _ hgl1 (by show 0 < g; omega)).trans ((hW.2 _ (by have := hb.size; show 0 < _; omega) he (by simp)).trans (hb.block _ hET)))).trans hG
  · rw [truncW_size W1 g hgl1]; omega
theorem base_call {w w0 W W1 : World} {n g : Nat} (hb : Below w.heap.size w W) (h0 : Below n w0 W) (h1 : Below n w0 W1) (hk : KeepBut W W1 g none) (hg : w.heap.size ≤ g) : Below w.heap.size w W1 :=
  ⟨h1.os.trans (h0.os.symm.trans hb.os), h1.tape.trans (h0.tape.symm.trans hb.tape), h1.output.trans (h0.output.symm.trans hb.output), Nat.le_trans hb.size hk.1,
    fun k hk2 => (hk.2 k (Nat.lt_of_lt_of_le hk2 hb.size) (by omega) (by simp)).trans (hb.block k hk2)⟩
theorem keep_blk {W W1 : World} {g b : Nat} {o : Obj} (hk : KeepBut W W1 g none) (hb : W.heap[b]? = some o) (hne : b ≠ g) : W1.heap[b]? = some o := (hk.2 b (blk_lt hb) hne (by simp)).trans hb
def RCall (W W1 : World) (g : Nat) : Prop := KeepBut W W1 g none ∧ ∀ w : World, Below w.heap.size w W → w.heap.size ≤ g → Below w.heap.size w W1
theorem RCall.of_below {W W1 : World} {g : Nat} (h : Below W.heap.size W W1) : RCall W W1 g := ⟨KeepBut.of_below h g none, fun _ hb _ => below_then hb hb.size h⟩
theorem RCall.of {w0 W W1 : World} {g : Nat} (h0 : Below w0.heap.size w0 W) (h1 : Below w0.heap.size w0 W1) (hk : KeepBut W W1 g none) : RCall W W1 g := ⟨hk, fun _ hb hg => base_call hb h0 h1 hk hg⟩
theorem mr_number (mb g : Nat) (a v n a' : Int) (W : World) (ha : a + n = a') (H : RDB mb W g leastL a) (h0 : 0 ≤ a) (h1 : a ≤ leastL.length) (hn : wrap64 (a + n) = a + n) (hf : num_short.f 3 (leastL.drop a.toNat) = some (v, n, 0)) (hv : 0 ≤ v) (hv2 : v ≤ 1099511627776) :
    Calls Tryz.prog 90 #[.pointer (some ⟨g, 0, none⟩)] W fun e w' => e = .returned (.int .i64 v) ∧ RDB mb w' g leastL a' ∧ RCall W w' g := by
  subst ha
  obtain ⟨w0, hI, hB, hG, hm, he⟩ := H
  refine (rd_number 3 g leastL a v n w0 W hI hB h0 h1 hn hf hv hv2).mono ?_
  rintro e w' ⟨rfl, k1, k2, k3⟩
  exact ⟨rfl, ⟨w0, k1, k2, hG, hm, he⟩, RCall.of hB k2 k3⟩
theorem mr_schema (mb g : Nat) (W : World) (H : RDB mb W g leastL 3) :
    Calls Tryz.prog 91 #[.pointer (some ⟨g, 0, none⟩)] W fun e w' => ∃ s c, e = .returned (.slice (some ⟨s, 0, none⟩) 1 c) ∧ 1 ≤ c ∧ Kd.C k123 w' (some ⟨s, 0, none⟩) 1 [⟨1, false, -1⟩] ∧ W.heap.size ≤ s ∧ s < w'.heap.size ∧ RDB mb w' g leastL 7 ∧ RCall W w' g := by
  obtain ⟨w0, hI, hB, hG, hm, he⟩ := H
  refine (rd_takeSchema g w0 W hG hI hB).mono ?_
  rintro e w' ⟨s, c, rfl, k1, k2, k3, k4, k5, k6, k7⟩
  exact ⟨s, c, rfl, k1, k2, k3, k4, ⟨w0, k5, k6, hG, hm, he⟩, RCall.of hB k6 k7⟩
theorem mr_rows (mb s c g : Nat) (W : World) (H : RDB mb W g leastL 8) :
    Calls Tryz.prog 94 #[.pointer (some ⟨g, 0, none⟩), .slice (some ⟨s, 0, none⟩) 1 c] W fun e w' => e = .returned (.slice none 0 0) ∧ RDB mb w' g leastL 9 ∧ RCall W w' g := by
  obtain ⟨w0, hI, hB, hG, hm, he⟩ := H
  refine (rd_takeRows s c g w0 W hG hI hB).mono ?_
  rintro e w' ⟨rfl, k5, k6, k7⟩
  exact ⟨rfl, ⟨w0, k5, k6, hG, hm, he⟩, RCall.of hB k6 k7⟩
theorem mr_entry (mb g : Nat) (W : World) (H : RDB mb W g leastL 10) :
    Calls Tryz.prog 95 #[.pointer (some ⟨g, 0, none⟩)] W fun e w' => e = .returned (.agg Tryz.zeroCells81) ∧ RDB mb w' g leastL 75 ∧ RCall W w' g := by
  obtain ⟨w0, hI, hB, hG, hm, he⟩ := H
  refine (rd_ledTake g w0 W hG hI hB).mono ?_
  rintro e w' ⟨rfl, k5, k6, k7⟩
  exact ⟨rfl, ⟨w0, k5, k6, hG, hm, he⟩, RCall.of hB k6 k7⟩
theorem mr_err (mb g : Nat) (a : Int) (W : World) (H : RDB mb W g leastL a) :
    Calls Tryz.prog 89 #[.pointer (some ⟨g, 0, none⟩)] W fun e w' => e = .returned (.tuple #[.int .i64 0, .int .i64 0]) ∧ Below W.heap.size W w' := by
  have hG := H.errT
  obtain ⟨w0, hI, hB, _, hm, he⟩ := H
  exact rd_err g leastL a 0 0 w0 W hG hI
theorem mr_end (mb g : Nat) (W : World) (H : RDB mb W g leastL 75) :
    Calls Tryz.prog 96 #[.pointer (some ⟨g, 0, none⟩)] W fun e w' => e = .returned (.tuple #[.int .i64 0, .int .i64 0]) ∧ Below W.heap.size W w' := by
  have hG := H.errT
  obtain ⟨w0, hI, hB, _, hm, he⟩ := H
  exact rd_end g leastL 75 w0 W hG hI (by decide +kernel)
abbrev MCells (a b : Int) (S : Value) (m : Int) (E : Value) : Array Value := #[.int .i64 a, .int .i64 b, S, .int .i64 m, .slice none 0 0, .slice none 0 0, E]
theorem mc_no (a b m : Int) (A B : Option Addr) (n c n' c' : Nat) : ∀ (i : Nat) (x : Int), (MCells a b (.slice A n c) m (.slice B n' c'))[i]? ≠ some (Value.int .u8 x) := by
  intro i x h
  rcases i with _ | _ | _ | _ | _ | _ | _ | i <;> simp [MCells] at h
theorem C_move_col {W W1 : World} {s : Nat} {n : Nat} {l : List S123} (h : Kd.C k123 W (some ⟨s, 0, none⟩) n l) (hm : W1.heap[s]? = W.heap[s]?) : Kd.C k123 W1 (some ⟨s, 0, none⟩) n l := by
  refine ⟨h.1, h.2.1, fun hn => ?_⟩
  obtain ⟨ad, e, hc⟩ := h.2.2 hn
  obtain rfl := Option.some.inj e
  refine ⟨_, rfl, fun j p hj => ?_⟩
  obtain ⟨c, h1, h2, h3⟩ := hc j p hj
  refine ⟨c, h1, h2, fun i u hu => ?_⟩
  refine (World.cell?_of_block (w := W) ?_).trans (h3 i u hu)
  rw [add_block]
  exact hm
theorem EntC.move {W W1 : World} {e : Nat} (h : EntC W e) (hm : W1.heap[e]? = W.heap[e]?) : EntC W1 e := fun i x hx => (World.cell?_of_block (w := W) hm).trans (h i x hx)
theorem EntC.of_raw {W : World} {e : Nat} (h : Kd.C (Kd.raw 65) W (some ⟨e, 0, none⟩) 1 [Tryz.zeroCells81.toList]) : EntC W e := fun i x hx => by
  obtain ⟨ad, he, hc⟩ := h.2.2 (by decide)
  obtain rfl := Option.some.inj he
  obtain ⟨c, h1, ⟨h2, _⟩, h3⟩ := hc 0 Tryz.zeroCells81.toList rfl
  subst h2
  have := h3 i x hx
  have hadd : (⟨e, 0, none⟩ : Addr).add (0 * (Kd.raw 65).sz + i) = ⟨e, 0 + i, none⟩ := by
    show (⟨e, 0, none⟩ : Addr).add (0 * 65 + i) = _
    rw [show 0 * 65 + i = i from by omega]
    exact (Addr.add_mid e 0 i).trans (by rw [Nat.zero_add])
  rwa [hadd] at this
theorem results_cr_tmp {P : Program} {fn : Func} {p u : Tmp} {ty : TypeId} (h : fn.results = #[.cell p ty, .tmp u]) (tmps : Array Value) (w : World) (g : Nat) (t : TypeId) (cs : Array Value) (fr : Nat × Nat) (d : TypeDesc)
    (hp : tmps.getD p undef = .pointer (some ⟨g, 0, none⟩)) (hg : w.heap[g]? = some (.cells cs t fr))
    (hu : P.underlying ty = some d) (hd : (match d with | .struct _ | .array _ _ => true | _ => false) = true) (hi : (P.info? ty).map (·.size) = some cs.size) :
    (results fn tmps).run P w = .ok (.tuple #[.agg cs, tmps.getD u undef]) w := by
  have hp' : tmps[p]?.getD undef = .pointer (some ⟨g, 0, none⟩) := by simpa using hp
  simp [results, h, hp', asAddr, run_loadVar_row w g t ty cs fr d hg hu hd hi]
set_option maxHeartbeats 1600000 in
set_option maxRecDepth 100000 in
theorem m_goodf (mb rb g : Nat) (a : Int) (W : World) (H : RDB mb W g leastL a) (hp : W.heap[rb]? = some (.cells #[.pointer (some ⟨g, 0, none⟩)] 146 (0, 0))) :
    Calls Tryz.prog 88 #[.pointer (some ⟨rb, 0, none⟩)] W fun e w' => e = .returned (.bool true) ∧ Below W.heap.size W w' := by
  have HH := Aside0.mk H
  have hrb : W.cell? ⟨rb, 0, none⟩ = some (.pointer (some ⟨g, 0, none⟩)) := blk_cell hp 0
  clear H hp
  go_enter Tryz.func88, Tryz.ntmps88
  go_wp2_with fail
  refine (mr_err mb g a W HH.out).mono ?_
  rintro e w' ⟨rfl, hb⟩
  have HB := Aside0.mk hb
  clear hb
  go_wp2
  go_ret
  exact ⟨rfl, HB.out⟩
end Go.Proofs.YtjmhiklmlgbifaaGreatDoor.PMan
end
section
namespace Go.Proofs.YtjmhiklmlgbifaaGreatDoor.PMan
open Go.RowKit Go.Proofs.YtjmhiklmlgbifaaGreatDoorW.PrintWords Go.Proofs.YtjmhiklmlgbifaaGreatDoorW.PrintLast Go.Proofs.YtjmhiklmlgbifaaGreatDoorW.PrintMore
attribute [local go_sem] max2_int min2_int max_two min_two max_three min_three max_four min_four   -- for this text's walks alone
set_option linter.unusedVariables false
set_option linter.unusedSimpArgs false
theorem lz0 : num_short.f 3 (leastL.drop (0 : Int).toNat) = some (0, 1, 0) := by decide +kernel
theorem lz1 : num_short.f 3 (leastL.drop (1 : Int).toNat) = some (0, 1, 0) := by decide +kernel
theorem lz2 : num_short.f 3 (leastL.drop (2 : Int).toNat) = some (1, 1, 0) := by decide +kernel
theorem lz7 : num_short.f 3 (leastL.drop (7 : Int).toNat) = some (0, 1, 0) := by decide +kernel
theorem lz9 : num_short.f 3 (leastL.drop (9 : Int).toNat) = some (1, 1, 0) := by decide +kernel
set_option maxHeartbeats 8000000 in
set_option maxRecDepth 100000 in
theorem m_read (A0 : Option Addr) (c0 : Nat) (w : World) (hr0 : Kd.C (Kd.int .u8) w A0 leastL.length leastL) (hc0 : leastL.length ≤ c0) (hG : ErrT w) :
    Calls Tryz.prog 54 #[.slice A0 leastL.length c0] w fun ev w' => ∃ s cs e ce, ev = .returned (.tuple #[ManV s cs e ce, .nilIface]) ∧ ManP w' s cs e ce ∧ w.heap.size ≤ s ∧ w.heap.size ≤ e ∧ Below w.heap.size w w' := by
  have HR0 := Aside0.mk hr0
  have HC0 := Aside0.mk hc0
  have HG := Aside0.mk hG
  clear hr0 hc0 hG
  go_enter Tryz.func54, Tryz.ntmps54
  go_wp2_with fail
  have hm0 : (w.alloc (.cells (MCells 0 0 (.slice none 0 0) 0 (.slice none 0 0)) 27)).heap[w.heap.size]? = some (.cells (MCells 0 0 (.slice none 0 0) 0 (.slice none 0 0)) 27 (0, 0)) := heap_alloc_new w _
  have hb0 : Below w.heap.size w (w.alloc (.cells (MCells 0 0 (.slice none 0 0) 0 (.slice none 0 0)) 27)) := below_alloc (Below.refl _ _) _
  have HM0 := Aside0.mk hm0
  have HB0 := Aside0.mk hb0
  have HR1 := Aside0.mk (Kd.C_below HR0.out hb0)
  clear hm0 hb0
  generalize w.alloc (.cells (MCells 0 0 (.slice none 0 0) 0 (.slice none 0 0)) 27) = W0 at *
  refine (rd_new A0 c0 leastL W0 HR1.out HC0.out (by decide)).mono ?_
  rintro e W1 ⟨g, w1, rfl, hrd, h1, h2⟩
  have hal : Below W1.heap.size W1 (W1.alloc (.cells #[.pointer (some ⟨g, 0, none⟩)] 146)).drew := below_drew (below_alloc (Below.refl _ _) _)
  have hW1 : Below W0.heap.size W0 W1 := h1.trans (h2.mono h1.size)
  have hmlt : w.heap.size < W0.heap.size := blk_lt HM0.out
  have hglt := hrd.lt
  have hgge : w1.heap.size ≤ g := by obtain ⟨A, c, ev, k1, k2, k3, k4, k5⟩ := hrd; exact k2
  have HRa := Aside0.mk (RDB.below (show RDB w.heap.size W1 g leastL 0 from ⟨w1, hrd, h2, HG.out.of_below (HB0.out.trans (h1.mono HB0.out.size)), Nat.lt_of_lt_of_le hmlt h1.size, by have := HG.out.lt; omega⟩) hal)
  have HMa := Aside0.mk (show (W1.alloc (.cells #[.pointer (some ⟨g, 0, none⟩)] 146)).drew.heap[w.heap.size]? = _ from (hal.block _ (Nat.lt_of_lt_of_le hmlt hW1.size)).trans ((hW1.block _ hmlt).trans (HM0.out)))
  have HPa := Aside0.mk (show (W1.alloc (.cells #[.pointer (some ⟨g, 0, none⟩)] 146)).drew.heap[W1.heap.size]? = some (.cells #[.pointer (some ⟨g, 0, none⟩)] 146 (0, 0)) from heap_alloc_new W1 _)
  have HBa := Aside0.mk (show Below w.heap.size w (W1.alloc (.cells #[.pointer (some ⟨g, 0, none⟩)] 146)).drew from (HB0.out.trans (hW1.mono HB0.out.size)).trans (hal.mono (Nat.le_trans HB0.out.size hW1.size)))
  have HRG := Aside0.mk (show W1.heap.size ≠ g by omega)
  have HRM := Aside0.mk (show W1.heap.size ≠ w.heap.size by have := hW1.size; omega)
  have HGW := Aside0.mk (show w.heap.size ≤ g by have := HB0.out.size; have := h1.size; omega)
  have HMW := Aside0.mk (show w.heap.size ≤ w.heap.size by omega)
  clear hal hW1 hmlt hglt hgge h1 h2 hrd HM0 HB0 HR1
  go_wp2_with fail
  have hrb : (W1.alloc (.cells #[.pointer (some ⟨g, 0, none⟩)] 146)).drew.cell? ⟨W1.heap.size, 0, none⟩ = some (.pointer (some ⟨g, 0, none⟩)) := blk_cell HPa.out 0
  refine start_ (n := 12) (S := fun w' => w'.cell? ⟨W1.heap.size, 0, none⟩ = some (.pointer (some ⟨g, 0, none⟩))) (ds := []) #[false, false, false, false, false, false, false, false, false, false, false, false] (by kernel_rfl) rfl rfl (hrb) (fun hHeld => ?_)
  generalize (W1.alloc (.cells #[.pointer (some ⟨g, 0, none⟩)] 146)).drew = wa at *
  refine take_ (i := 0) (N := some 15) (v := ?_) (a' := ?_) #[true, false, false, false, false, false, false, false, false, false, false, false] rfl rfl (by kernel_rfl) (fun _ _ _ h => h) (Or.inl ⟨by rfl, ?_⟩) hHeld ?_ ?_
  rotate_left
  · intro w' s0
    go_simp
    with_reducible rfl
  rotate_left
  · simp only [Act.put, List.setIfInBounds_toArray, List.set_cons_zero, List.set_cons_succ, i64_w, i32_w]
    rfl
  refine take_ (i := 2) (N := some 17) (v := ?_) (a' := ?_) #[true, false, true, false, false, false, false, false, false, false, false, false] rfl rfl (by kernel_rfl) (fun _ _ _ h => h) (Or.inl ⟨by rfl, ?_⟩) hHeld ?_ ?_
  rotate_left
  · intro w' s0
    go_simp
    with_reducible rfl
  rotate_left
  · simp only [Act.put, List.setIfInBounds_toArray, List.set_cons_zero, List.set_cons_succ, i64_w, i32_w]
    rfl
  refine take_ (i := 4) (N := some 19) (v := ?_) (a' := ?_) #[true, false, true, false, true, false, false, false, false, false, false, false] rfl rfl (by kernel_rfl) (fun _ _ _ h => h) (Or.inl ⟨by rfl, ?_⟩) hHeld ?_ ?_
  rotate_left
  · intro w' s0
    go_simp
    with_reducible rfl
  rotate_left
  · simp only [Act.put, List.setIfInBounds_toArray, List.set_cons_zero, List.set_cons_succ, i64_w, i32_w]
    rfl
  refine one_ (i := 1) (N := some 16) #[true, true, true, false, true, false, false, false, false, false, false, false] rfl rfl (by kernel_rfl) (by decide) (fun K hK => ?_)
  refine goes_ Tryz.func90 (by kernel_rfl) rfl #[.pointer (some ⟨g, 0, none⟩)] (by rfl) rfl rfl (by simp only [List.map_toArray, List.map_cons, List.map_nil]; rfl) ?_
  with_reducible refine (mr_number w.heap.size g 0 0 1 1 wa rfl HRa.out (by decide) (by decide) (by decide +kernel) lz0 (by decide) (by decide)).mono ?_
  rintro e wb ⟨rfl, hR, hK⟩
  refine ⟨_, rfl, ?_⟩
  have HRb := Aside0.mk hR
  have HMb := Aside0.mk (keep_blk hK.1 HMa.out (Nat.ne_of_lt hR.lt.1))
  have HPb := Aside0.mk (keep_blk hK.1 HPa.out HRG.out)
  have HBb := Aside0.mk (hK.2 w HBa.out HGW.out)
  have hrb : wb.cell? ⟨W1.heap.size, 0, none⟩ = some (.pointer (some ⟨g, 0, none⟩)) := blk_cell HPb.out 0
  clear hR hK
  refine hK.out _ _ (hrb) (fun hHeld => ?_)
  clear hK K
  refine norm_ (a' := ?_) ?_ ?_
  rotate_left
  · show Act.put _ (some 16) _ = _
    simp only [Act.put, List.setIfInBounds_toArray, List.set_cons_zero, List.set_cons_succ, i64_w, i32_w]
    rfl
  refine pure_ (i := 6) (N := some 21) (v := ?_) (a' := ?_) #[true, true, true, false, true, false, true, false, false, false, false, false] rfl rfl (by kernel_rfl) (fun _ _ _ h => h) (Or.inl ⟨by rfl, ?_⟩) ?_ ?_
  rotate_left
  · intro w'
    go_simp
    with_reducible rfl
  rotate_left
  · simp only [Act.put, List.setIfInBounds_toArray, List.set_cons_zero, List.set_cons_succ, i64_w, i32_w]
    rfl
  refine one_ (i := 3) (N := some 18) #[true, true, true, true, true, false, true, false, false, false, false, false] rfl rfl (by kernel_rfl) (by decide) (fun K hK => ?_)
  refine goes_ Tryz.func90 (by kernel_rfl) rfl #[.pointer (some ⟨g, 0, none⟩)] (by rfl) rfl rfl (by simp only [List.map_toArray, List.map_cons, List.map_nil]; rfl) ?_
  with_reducible refine (mr_number w.heap.size g 1 0 1 2 wb rfl HRb.out (by decide) (by decide) (by decide +kernel) lz1 (by decide) (by decide)).mono ?_
  rintro e wc ⟨rfl, hR, hK⟩
  refine ⟨_, rfl, ?_⟩
  have HRc := Aside0.mk hR
  have HMc := Aside0.mk (keep_blk hK.1 HMb.out (Nat.ne_of_lt hR.lt.1))
  have HPc := Aside0.mk (keep_blk hK.1 HPb.out HRG.out)
  have HBc := Aside0.mk (hK.2 w HBb.out HGW.out)
  have hrb : wc.cell? ⟨W1.heap.size, 0, none⟩ = some (.pointer (some ⟨g, 0, none⟩)) := blk_cell HPc.out 0
  clear hR hK
  refine hK.out _ _ (hrb) (fun hHeld => ?_)
  clear hK K
  refine norm_ (a' := ?_) ?_ ?_
  rotate_left
  · show Act.put _ (some 18) _ = _
    simp only [Act.put, List.setIfInBounds_toArray, List.set_cons_zero, List.set_cons_succ, i64_w, i32_w]
    rfl
  refine one_ (i := 5) (N := some 20) #[true, true, true, true, true, true, true, false, false, false, false, false] rfl rfl (by kernel_rfl) (by decide) (fun K hK => ?_)
  refine goes_ Tryz.func90 (by kernel_rfl) rfl #[.pointer (some ⟨g, 0, none⟩)] (by rfl) rfl rfl (by simp only [List.map_toArray, List.map_cons, List.map_nil]; rfl) ?_
  with_reducible refine (mr_number w.heap.size g 2 1 1 3 wc rfl HRc.out (by decide) (by decide) (by decide +kernel) lz2 (by decide) (by decide)).mono ?_
  rintro e wd ⟨rfl, hR, hK⟩
  refine ⟨_, rfl, ?_⟩
  have HRd := Aside0.mk hR
  have HMd := Aside0.mk (keep_blk hK.1 HMc.out (Nat.ne_of_lt hR.lt.1))
  have HPd := Aside0.mk (keep_blk hK.1 HPc.out HRG.out)
  have HBd := Aside0.mk (hK.2 w HBc.out HGW.out)
  have hrb : wd.cell? ⟨W1.heap.size, 0, none⟩ = some (.pointer (some ⟨g, 0, none⟩)) := blk_cell HPd.out 0
  clear hR hK
  have qm : wd.cell? ⟨w.heap.size, 0, none⟩ = some (.int .i64 0) := blk_cell HMd.out 0
  have qf := blk_frozen HMd.out 0
  refine hK.out _ _ (hrb) (fun hHeld => ?_)
  clear hK K
  refine norm_ (a' := ?_) ?_ ?_
  rotate_left
  · show Act.put _ (some 20) _ = _
    simp only [Act.put, List.setIfInBounds_toArray, List.set_cons_zero, List.set_cons_succ, i64_w, i32_w]
    rfl
  refine one_ (i := 7) (N := none) #[true, true, true, true, true, true, true, true, false, false, false, false] rfl rfl (by kernel_rfl) (by decide) (fun K hK => ?_)
  refine skip_ (w1 := ?_) (by rfl) rfl ?_ ?_
  rotate_left
  · go_simp
    rfl
  have hst : KeepBut wd (wd.setCell ⟨w.heap.size, 0, none⟩ (.int .i64 0)) w.heap.size none := (KeepBut.refl _ _ _).set_ 0 _
  have HRe := Aside0.mk (HRd.out.store (by decide) HMd.out (mc_no _ _ _ _ _ _ _ _ _) hst)
  have HMe := Aside0.mk (show (wd.setCell ⟨w.heap.size, 0, none⟩ (.int .i64 0)).heap[w.heap.size]? = some (.cells (MCells 0 0 (.slice none 0 0) 0 (.slice none 0 0)) 27 (0, 0)) from by simpa [MCells] using blk_set HMd.out 0 (.int .i64 0))
  have HPe := Aside0.mk (keep_blk hst HPd.out HRM.out)
  have HBe := Aside0.mk (show Below w.heap.size w (wd.setCell ⟨w.heap.size, 0, none⟩ (.int .i64 0)) from HBd.out.setCell (Nat.le_refl _) _)
  generalize hws : wd.setCell ⟨w.heap.size, 0, none⟩ (.int .i64 0) = we at *
  have hrb : we.cell? ⟨W1.heap.size, 0, none⟩ = some (.pointer (some ⟨g, 0, none⟩)) := blk_cell HPe.out 0
  have qm : we.cell? ⟨w.heap.size, 1, none⟩ = some (.int .i64 0) := blk_cell HMe.out 1
  have qf := blk_frozen HMe.out 1
  refine hK.out _ _ (hrb) (fun hHeld => ?_)
  clear hK K
  refine pure_ (i := 8) (N := some 22) (v := ?_) (a' := ?_) #[true, true, true, true, true, true, true, true, true, false, false, false] rfl rfl (by kernel_rfl) (fun _ _ _ h => h) (Or.inl ⟨by rfl, ?_⟩) ?_ ?_
  rotate_left
  · intro w'
    go_simp
    with_reducible rfl
  rotate_left
  · simp only [Act.put, List.setIfInBounds_toArray, List.set_cons_zero, List.set_cons_succ, i64_w, i32_w]
    rfl
  refine one_ (i := 9) (N := none) #[true, true, true, true, true, true, true, true, true, true, false, false] rfl rfl (by kernel_rfl) (by decide) (fun K hK => ?_)
  refine skip_ (w1 := ?_) (by rfl) rfl ?_ ?_
  rotate_left
  · go_simp
    rfl
  have hst : KeepBut we (we.setCell ⟨w.heap.size, 1, none⟩ (.int .i64 0)) w.heap.size none := (KeepBut.refl _ _ _).set_ 1 _
  have HRf := Aside0.mk (HRe.out.store (by decide) HMe.out (mc_no _ _ _ _ _ _ _ _ _) hst)
  have HMf := Aside0.mk (show (we.setCell ⟨w.heap.size, 1, none⟩ (.int .i64 0)).heap[w.heap.size]? = some (.cells (MCells 0 0 (.slice none 0 0) 0 (.slice none 0 0)) 27 (0, 0)) from by simpa [MCells] using blk_set HMe.out 1 (.int .i64 0))
  have HPf := Aside0.mk (keep_blk hst HPe.out HRM.out)
  have HBf := Aside0.mk (show Below w.heap.size w (we.setCell ⟨w.heap.size, 1, none⟩ (.int .i64 0)) from HBe.out.setCell (Nat.le_refl _) _)
  generalize hws : we.setCell ⟨w.heap.size, 1, none⟩ (.int .i64 0) = wf at *
  have hrb : wf.cell? ⟨W1.heap.size, 0, none⟩ = some (.pointer (some ⟨g, 0, none⟩)) := blk_cell HPf.out 0
  have qm : wf.cell? ⟨w.heap.size, 3, none⟩ = some (.int .i64 0) := blk_cell HMf.out 3
  have qf := blk_frozen HMf.out 3
  refine hK.out _ _ (hrb) (fun hHeld => ?_)
  clear hK K
  refine pure_ (i := 10) (N := some 23) (v := ?_) (a' := ?_) #[true, true, true, true, true, true, true, true, true, true, true, false] rfl rfl (by kernel_rfl) (fun _ _ _ h => h) (Or.inl ⟨by rfl, ?_⟩) ?_ ?_
  rotate_left
  · intro w'
    go_simp
    with_reducible rfl
  rotate_left
  · simp only [Act.put, List.setIfInBounds_toArray, List.set_cons_zero, List.set_cons_succ, i64_w, i32_w]
    rfl
  refine one_ (i := 11) (N := none) #[true, true, true, true, true, true, true, true, true, true, true, true] rfl rfl (by kernel_rfl) (by decide) (fun K hK => ?_)
  refine skip_ (w1 := ?_) (by rfl) rfl ?_ ?_
  rotate_left
  · go_simp
    rfl
  have hst : KeepBut wf (wf.setCell ⟨w.heap.size, 3, none⟩ (.int .i64 1)) w.heap.size none := (KeepBut.refl _ _ _).set_ 3 _
  have HRh := Aside0.mk (HRf.out.store (by decide) HMf.out (mc_no _ _ _ _ _ _ _ _ _) hst)
  have HMh := Aside0.mk (show (wf.setCell ⟨w.heap.size, 3, none⟩ (.int .i64 1)).heap[w.heap.size]? = some (.cells (MCells 0 0 (.slice none 0 0) 1 (.slice none 0 0)) 27 (0, 0)) from by simpa [MCells] using blk_set HMf.out 3 (.int .i64 1))
  have HPh := Aside0.mk (keep_blk hst HPf.out HRM.out)
  have HBh := Aside0.mk (show Below w.heap.size w (wf.setCell ⟨w.heap.size, 3, none⟩ (.int .i64 1)) from HBf.out.setCell (Nat.le_refl _) _)
  generalize hws : wf.setCell ⟨w.heap.size, 3, none⟩ (.int .i64 1) = wh at *
  have hrb : wh.cell? ⟨W1.heap.size, 0, none⟩ = some (.pointer (some ⟨g, 0, none⟩)) := blk_cell HPh.out 0
  refine hK.out _ _ (hrb) (fun hHeld => ?_)
  clear hK K
  refine done_ (by kernel_rfl) ?_
  go_wp2_with fail
  refine (mr_schema w.heap.size g wh HRh.out).mono ?_
  rintro e wi ⟨sb, cs, rfl, hcs, hC, hs1, hs2, hR, hK⟩
  have HRi := Aside0.mk hR
  have HMi := Aside0.mk (keep_blk hK.1 HMh.out (Nat.ne_of_lt hR.lt.1))
  have HPi := Aside0.mk (keep_blk hK.1 HPh.out HRG.out)
  have HBi := Aside0.mk (hK.2 w HBh.out HGW.out)
  have hrb : wi.cell? ⟨W1.heap.size, 0, none⟩ = some (.pointer (some ⟨g, 0, none⟩)) := blk_cell HPi.out 0
  have HCS := Aside0.mk hcs
  have HSW := Aside0.mk (show w.heap.size ≤ sb from Nat.le_trans HBh.out.size hs1)
  have HSG := Aside0.mk (show sb ≠ g by have := HRh.out.lt.2; omega)
  have HSM := Aside0.mk (show sb ≠ w.heap.size by have := blk_lt HMh.out; omega)
  have HCi := Aside0.mk hC
  have HSi := Aside0.mk hs2
  clear hcs hC hs1 hs2 hR hK
  have qm : wi.cell? ⟨w.heap.size, 2, none⟩ = some (.slice none 0 0) := blk_cell HMi.out 2
  have qf := blk_frozen HMi.out 2
  have hst : KeepBut wi (wi.setCell ⟨w.heap.size, 2, none⟩ (.slice (some ⟨sb, 0, none⟩) 1 cs)) w.heap.size none := (KeepBut.refl _ _ _).set_ 2 _
  have HRj := Aside0.mk (HRi.out.store (by decide) HMi.out (mc_no _ _ _ _ _ _ _ _ _) hst)
  have HMj := Aside0.mk (show (wi.setCell ⟨w.heap.size, 2, none⟩ (.slice (some ⟨sb, 0, none⟩) 1 cs)).heap[w.heap.size]? = some (.cells (MCells 0 0 (.slice (some ⟨sb, 0, none⟩) 1 cs) 1 (.slice none 0 0)) 27 (0, 0)) from by simpa [MCells] using blk_set HMi.out 2 (.slice (some ⟨sb, 0, none⟩) 1 cs))
  have HPj := Aside0.mk (keep_blk hst HPi.out HRM.out)
  have HBj := Aside0.mk (show Below w.heap.size w (wi.setCell ⟨w.heap.size, 2, none⟩ (.slice (some ⟨sb, 0, none⟩) 1 cs)) from HBi.out.setCell (Nat.le_refl _) _)
  have hrb : (wi.setCell ⟨w.heap.size, 2, none⟩ (.slice (some ⟨sb, 0, none⟩) 1 cs)).cell? ⟨W1.heap.size, 0, none⟩ = some (.pointer (some ⟨g, 0, none⟩)) := blk_cell HPj.out 0
  have HSj := Aside0.mk (Nat.lt_of_lt_of_le HSi.out hst.1)
  have HCj := Aside0.mk (C_move_col HCi.out ((hst.2 sb HSi.out HSM.out (by simp))))
  go_wp2_with fail
  generalize hws : wi.setCell ⟨w.heap.size, 2, none⟩ (.slice (some ⟨sb, 0, none⟩) 1 cs) = wj at *
  refine (mr_number w.heap.size g 7 0 1 8 wj rfl HRj.out (by decide) (by decide) (by decide +kernel) lz7 (by decide) (by decide)).mono ?_
  rintro e wk ⟨rfl, hR, hK⟩
  have HRk := Aside0.mk hR
  have HMk := Aside0.mk (keep_blk hK.1 HMj.out (Nat.ne_of_lt hR.lt.1))
  have HPk := Aside0.mk (keep_blk hK.1 HPj.out HRG.out)
  have HBk := Aside0.mk (hK.2 w HBj.out HGW.out)
  have hrb : wk.cell? ⟨W1.heap.size, 0, none⟩ = some (.pointer (some ⟨g, 0, none⟩)) := blk_cell HPk.out 0
  have HCk := Aside0.mk (C_move_col HCj.out (hK.1.2 sb HSj.out HSG.out (by simp)))
  have HSk := Aside0.mk (Nat.lt_of_lt_of_le HSj.out hK.1.1)
  clear hR hK
  have q2 : wk.cell? ⟨w.heap.size, 2, none⟩ = some (.slice (some ⟨sb, 0, none⟩) 1 cs) := blk_cell HMk.out 2
  go_wp2_with fail
  refine wp_loop_rounds 1 ?_
  rw [rounds_succ]
  go_wp2_with fail
  refine (mr_rows w.heap.size sb cs g wk HRk.out).mono ?_
  rintro e wl ⟨rfl, hR, hK⟩
  have HRl := Aside0.mk hR
  have HMl := Aside0.mk (keep_blk hK.1 HMk.out (Nat.ne_of_lt hR.lt.1))
  have HPl := Aside0.mk (keep_blk hK.1 HPk.out HRG.out)
  have HBl := Aside0.mk (hK.2 w HBk.out HGW.out)
  have hrb : wl.cell? ⟨W1.heap.size, 0, none⟩ = some (.pointer (some ⟨g, 0, none⟩)) := blk_cell HPl.out 0
  have HCl := Aside0.mk (C_move_col HCk.out (hK.1.2 sb HSk.out HSG.out (by simp)))
  have HSl := Aside0.mk (Nat.lt_of_lt_of_le HSk.out hK.1.1)
  clear hR hK
  have q5 : wl.cell? ⟨w.heap.size, 5, none⟩ = some (.slice none 0 0) := blk_cell HMl.out 5
  have qm : wl.cell? ⟨w.heap.size, 5, none⟩ = some (.slice none 0 0) := blk_cell HMl.out 5
  have qf := blk_frozen HMl.out 5
  have hst : KeepBut wl (wl.setCell ⟨w.heap.size, 5, none⟩ (.slice none 0 0)) w.heap.size none := (KeepBut.refl _ _ _).set_ 5 _
  have HRm := Aside0.mk (HRl.out.store (by decide) HMl.out (mc_no _ _ _ _ _ _ _ _ _) hst)
  have HMm := Aside0.mk (show (wl.setCell ⟨w.heap.size, 5, none⟩ (.slice none 0 0)).heap[w.heap.size]? = some (.cells (MCells 0 0 (.slice (some ⟨sb, 0, none⟩) 1 cs) 1 (.slice none 0 0)) 27 (0, 0)) from by simpa [MCells] using blk_set HMl.out 5 (.slice none 0 0))
  have HPm := Aside0.mk (keep_blk hst HPl.out HRM.out)
  have HBm := Aside0.mk (show Below w.heap.size w (wl.setCell ⟨w.heap.size, 5, none⟩ (.slice none 0 0)) from HBl.out.setCell (Nat.le_refl _) _)
  have hrb : (wl.setCell ⟨w.heap.size, 5, none⟩ (.slice none 0 0)).cell? ⟨W1.heap.size, 0, none⟩ = some (.pointer (some ⟨g, 0, none⟩)) := blk_cell HPm.out 0
  have HSm := Aside0.mk (Nat.lt_of_lt_of_le HSl.out hst.1)
  have HCm := Aside0.mk (C_move_col HCl.out ((hst.2 sb HSl.out HSM.out (by simp))))
  go_wp2_with fail
  generalize hws : wl.setCell ⟨w.heap.size, 5, none⟩ (.slice none 0 0) = wm at *
  refine (mr_number w.heap.size g 9 1 1 10 wm rfl HRm.out (by decide) (by decide) (by decide +kernel) lz9 (by decide) (by decide)).mono ?_
  rintro e wn ⟨rfl, hR, hK⟩
  have HRn := Aside0.mk hR
  have HMn := Aside0.mk (keep_blk hK.1 HMm.out (Nat.ne_of_lt hR.lt.1))
  have HPn := Aside0.mk (keep_blk hK.1 HPm.out HRG.out)
  have HBn := Aside0.mk (hK.2 w HBm.out HGW.out)
  have hrb : wn.cell? ⟨W1.heap.size, 0, none⟩ = some (.pointer (some ⟨g, 0, none⟩)) := blk_cell HPn.out 0
  have HCn := Aside0.mk (C_move_col HCm.out (hK.1.2 sb HSm.out HSG.out (by simp)))
  have HSn := Aside0.mk (Nat.lt_of_lt_of_le HSm.out hK.1.1)
  clear hR hK
  go_wp2_with fail
  refine wp_loop_rounds 2 ?_
  rw [rounds_succ]
  go_wp2_with fail
  refine (m_goodf w.heap.size W1.heap.size g 10 wn HRn.out HPn.out).mono ?_
  rintro e wo ⟨rfl, hb⟩
  have hR := HRn.out.below hb
  have hK : RCall wn wo g := RCall.of_below hb
  have HRo := Aside0.mk hR
  have HMo := Aside0.mk (keep_blk hK.1 HMn.out (Nat.ne_of_lt hR.lt.1))
  have HPo := Aside0.mk (keep_blk hK.1 HPn.out HRG.out)
  have HBo := Aside0.mk (hK.2 w HBn.out HGW.out)
  have hrb : wo.cell? ⟨W1.heap.size, 0, none⟩ = some (.pointer (some ⟨g, 0, none⟩)) := blk_cell HPo.out 0
  have HCo := Aside0.mk (C_move_col HCn.out (hb.block sb HSn.out))
  have HSo := Aside0.mk (Nat.lt_of_lt_of_le HSn.out hb.size)
  clear hR hK hb
  go_wp2_with fail
  have hrb : wo.drew.cell? ⟨W1.heap.size, 0, none⟩ = some (.pointer (some ⟨g, 0, none⟩)) := blk_cell (show wo.drew.heap[W1.heap.size]? = _ from HPo.out) 0
  have hq6 : wo.drew.cell? ⟨w.heap.size, 6, none⟩ = some (.slice none 0 0) := blk_cell (show wo.drew.heap[w.heap.size]? = _ from HMo.out) 6
  have HRp := Aside0.mk (HRo.out.below (below_drew (Below.refl _ wo)))
  have HMp := Aside0.mk (show wo.drew.heap[w.heap.size]? = some (.cells (MCells 0 0 (.slice (some ⟨sb, 0, none⟩) 1 cs) 1 (.slice none 0 0)) 27 (0, 0)) from HMo.out)
  have HPp := Aside0.mk (show wo.drew.heap[W1.heap.size]? = some (.cells #[.pointer (some ⟨g, 0, none⟩)] 146 (0, 0)) from HPo.out)
  have HBp := Aside0.mk (below_drew HBo.out)
  have HCp := Aside0.mk (show Kd.C k123 wo.drew (some ⟨sb, 0, none⟩) 1 [⟨1, false, -1⟩] from HCo.out)
  have HSp := Aside0.mk (show sb < wo.drew.heap.size from HSo.out)
  refine start_ (n := 8) (S := fun w' => w'.cell? ⟨W1.heap.size, 0, none⟩ = some (.pointer (some ⟨g, 0, none⟩)) ∧ w'.cell? ⟨w.heap.size, 6, none⟩ = some (.slice none 0 0)) (ds := [7]) #[false, false, false, false, false, false, false, false] (by kernel_rfl) rfl rfl ⟨hrb, hq6⟩ (fun hHeld => ?_)
  generalize wo.drew = wp at *
  refine pure_ (i := 0) (N := some 68) (v := ?_) (a' := ?_) #[true, false, false, false, false, false, false, false] rfl rfl (by kernel_rfl) (fun _ _ _ h => h) (Or.inl ⟨by rfl, ?_⟩) ?_ ?_
  rotate_left
  · intro w'
    go_simp
    with_reducible rfl
  rotate_left
  · simp only [Act.put, List.setIfInBounds_toArray, List.set_cons_zero, List.set_cons_succ, i64_w, i32_w]
    rfl
  refine take_ (i := 1) (N := some 69) (v := ?_) (a' := ?_) #[true, true, false, false, false, false, false, false] rfl rfl (by kernel_rfl) (fun _ _ _ h => h) (Or.inl ⟨by rfl, ?_⟩) hHeld ?_ ?_
  rotate_left
  · rintro w' ⟨s0, s1⟩
    go_simp
    with_reducible rfl
  rotate_left
  · simp only [Act.put, List.setIfInBounds_toArray, List.set_cons_zero, List.set_cons_succ, i64_w, i32_w]
    rfl
  refine take_ (i := 2) (N := some 70) (v := ?_) (a' := ?_) #[true, true, true, false, false, false, false, false] rfl rfl (by kernel_rfl) (fun _ _ _ h => h) (Or.inl ⟨by rfl, ?_⟩) hHeld ?_ ?_
  rotate_left
  · rintro w' ⟨s0, s1⟩
    go_simp
    with_reducible rfl
  rotate_left
  · simp only [Act.put, List.setIfInBounds_toArray, List.set_cons_zero, List.set_cons_succ, i64_w, i32_w]
    rfl
  refine one_ (i := 3) (N := some 71) #[true, true, true, true, false, false, false, false] rfl rfl (by kernel_rfl) (by decide) (fun K hK => ?_)
  refine goes_ Tryz.func95 (by kernel_rfl) rfl #[.pointer (some ⟨g, 0, none⟩)] (by rfl) rfl rfl (by simp only [List.map_toArray, List.map_cons, List.map_nil]; rfl) ?_
  with_reducible refine (mr_entry w.heap.size g wp HRp.out).mono ?_
  rintro e wq ⟨rfl, hR, hK⟩
  refine ⟨_, rfl, ?_⟩
  have HRq := Aside0.mk hR
  have HMq := Aside0.mk (keep_blk hK.1 HMp.out (Nat.ne_of_lt hR.lt.1))
  have HPq := Aside0.mk (keep_blk hK.1 HPp.out HRG.out)
  have HBq := Aside0.mk (hK.2 w HBp.out HGW.out)
  have hrb : wq.cell? ⟨W1.heap.size, 0, none⟩ = some (.pointer (some ⟨g, 0, none⟩)) := blk_cell HPq.out 0
  have HCq := Aside0.mk (C_move_col HCp.out (hK.1.2 sb HSp.out HSG.out (by simp)))
  have HSq := Aside0.mk (Nat.lt_of_lt_of_le HSp.out hK.1.1)
  have hq6 : wq.cell? ⟨w.heap.size, 6, none⟩ = some (.slice none 0 0) := blk_cell HMq.out 6
  clear hR hK
  refine hK.out _ _ ⟨hrb, hq6⟩ (fun hHeld => ?_)
  clear hK K
  refine norm_ (a' := ?_) ?_ ?_
  rotate_left
  · show Act.put _ (some 71) _ = _
    simp only [Act.put, List.setIfInBounds_toArray, List.set_cons_zero, List.set_cons_succ, i64_w, i32_w]
    rfl
  refine one_ (i := 4) (N := some 72) #[true, true, true, true, true, false, false, false] rfl rfl (by kernel_rfl) (by decide) (fun K hK => ?_)
  refine value_ (w1 := ?_) (v := ?_) (by rfl) rfl ?_ ?_
  rotate_left 2
  · show _ = Result.ok (Next.value (Value.slice (some ⟨wq.heap.size, 0, none⟩) 1 1)) (wq.alloc (.cells Tryz.zeroCells81 81))
    kernel_rfl
  have hba : Below wq.heap.size wq (wq.alloc (.cells Tryz.zeroCells81 81)) := below_alloc (Below.refl _ _) _
  have hrb := pw_cell_below hba hrb
  have hq6 := pw_cell_below hba hq6
  have hone : ∀ u ∈ Tryz.zeroCells81.toList, u.oneCell' = true := fun u hu => List.all_eq_true.1 (show Tryz.zeroCells81.toList.all (·.oneCell') = true from by kernel_rfl) u hu
  refine hK.out _ _ ⟨hrb, hq6⟩ (fun hHeld => ?_)
  clear hK K
  refine norm_ (a' := ?_) ?_ ?_
  rotate_left
  · show Act.put _ (some 72) _ = _
    simp only [Act.put, List.setIfInBounds_toArray, List.set_cons_zero, List.set_cons_succ, i64_w, i32_w]
    rfl
  refine one_ (i := 5) (N := some 73) #[true, true, true, true, true, true, false, false] rfl rfl (by kernel_rfl) (by decide) (fun K hK => ?_)
  refine Kd.R_append_step (Kd.raw 65) (w0 := wq) wq.heap.size (by rfl) (.tmp 69) (.tmp 72) 25 81 (.agg Tryz.zeroCells81) 72 rfl Tryz.underlying25 (by kernel_rfl) (by kernel_rfl) (by decide) (by decide) (.slice none 0 0) [] Tryz.zeroCells81.toList Tryz.zeroCells81.toList (fun _ => True) (fun _ => False) rfl rfl ⟨rfl, by kernel_rfl, hone⟩ (fun _ h => h.elim) (fun _ _ => trivial) (Kd.R_nil _ _ _ _ _) (Below.refl _ _) (Nat.le_refl _) (by decide) ?_
  intro v5 wr ho hbr _ _
  obtain ⟨eb, ce, rfl, _⟩ := Kd.R_form ho (by simp)
  have hrd := Kd.R_reads' ho
  have HCE := Aside0.mk hrd.2.1
  have HEr := Aside0.mk (EntC.of_raw hrd.2.2)
  have HEL := Aside0.mk (Kd.R_lt ho eb rfl)
  have heb := Kd.R_base ho eb rfl
  have HEW := Aside0.mk (show w.heap.size ≤ eb from Nat.le_trans HBq.out.size heb)
  have HRr := Aside0.mk (HRq.out.below hbr)
  have HMr := Aside0.mk ((hbr.block _ (blk_lt HMq.out)).trans HMq.out)
  have HPr := Aside0.mk ((hbr.block _ (blk_lt HPq.out)).trans HPq.out)
  have HBr := Aside0.mk (below_then HBq.out HBq.out.size hbr)
  have HCr := Aside0.mk (C_move_col HCq.out (hbr.block sb HSq.out))
  have HSr := Aside0.mk (Nat.lt_of_lt_of_le HSq.out hbr.size)
  have HEG := Aside0.mk (show eb ≠ g by have := HRq.out.lt.2; omega)
  have HEM := Aside0.mk (show eb ≠ w.heap.size by have := blk_lt HMq.out; omega)
  have hrb : wr.cell? ⟨W1.heap.size, 0, none⟩ = some (.pointer (some ⟨g, 0, none⟩)) := blk_cell HPr.out 0
  have hq6 : wr.cell? ⟨w.heap.size, 6, none⟩ = some (.slice none 0 0) := blk_cell HMr.out 6
  have qf := blk_frozen HMr.out 6
  clear ho hbr hrd heb
  refine hK.out _ _ ⟨hrb, hq6⟩ (fun hHeld => ?_)
  clear hK K
  refine norm_ (a' := ?_) ?_ ?_
  rotate_left
  · show Act.put _ (some 73) _ = _
    simp only [Act.put, List.setIfInBounds_toArray, List.set_cons_zero, List.set_cons_succ, i64_w, i32_w]
    rfl
  refine pure_ (i := 6) (N := some 74) (v := ?_) (a' := ?_) #[true, true, true, true, true, true, true, false] rfl rfl (by kernel_rfl) (fun _ _ _ h => h) (Or.inl ⟨by rfl, ?_⟩) ?_ ?_
  rotate_left
  · intro w'
    go_simp
    with_reducible rfl
  rotate_left
  · simp only [Act.put, List.setIfInBounds_toArray, List.set_cons_zero, List.set_cons_succ, i64_w, i32_w]
    rfl
  refine last_ (i := 7) (N := none) #[true, true, true, true, true, true, true, true] rfl rfl (by kernel_rfl) (by decide) (fun K hK => ?_)
  refine skip_ (w1 := ?_) (by rfl) rfl ?_ ?_
  rotate_left
  · go_simp
    rfl
  have hst : KeepBut wr (wr.setCell ⟨w.heap.size, 6, none⟩ (.slice (some ⟨eb, 0, none⟩) 1 ce)) w.heap.size none := (KeepBut.refl _ _ _).set_ 6 _
  have HRs := Aside0.mk (HRr.out.store (by decide) HMr.out (mc_no _ _ _ _ _ _ _ _ _) hst)
  have HMs := Aside0.mk (show (wr.setCell ⟨w.heap.size, 6, none⟩ (.slice (some ⟨eb, 0, none⟩) 1 ce)).heap[w.heap.size]? = some (.cells (MCells 0 0 (.slice (some ⟨sb, 0, none⟩) 1 cs) 1 (.slice (some ⟨eb, 0, none⟩) 1 ce)) 27 (0, 0)) from by simpa [MCells] using blk_set HMr.out 6 (.slice (some ⟨eb, 0, none⟩) 1 ce))
  have HPs := Aside0.mk (keep_blk hst HPr.out HRM.out)
  have HBs := Aside0.mk (show Below w.heap.size w (wr.setCell ⟨w.heap.size, 6, none⟩ (.slice (some ⟨eb, 0, none⟩) 1 ce)) from HBr.out.setCell (Nat.le_refl _) _)
  have HCs := Aside0.mk (C_move_col HCr.out (hst.2 sb HSr.out HSM.out (by simp)))
  have HSs := Aside0.mk (Nat.lt_of_lt_of_le HSr.out hst.1)
  have HEs := Aside0.mk (HEr.out.move (hst.2 eb HEL.out HEM.out (by simp)))
  have HELs := Aside0.mk (Nat.lt_of_lt_of_le HEL.out hst.1)
  generalize hws : wr.setCell ⟨w.heap.size, 6, none⟩ (.slice (some ⟨eb, 0, none⟩) 1 ce) = ws at *
  have hrb : ws.cell? ⟨W1.heap.size, 0, none⟩ = some (.pointer (some ⟨g, 0, none⟩)) := blk_cell HPs.out 0
  refine hK.out _ _ ?_
  clear hK K
  refine done_ (by kernel_rfl) ?_
  go_wp2_with fail
  rw [rounds_succ]
  go_wp2_with fail
  refine (mr_end w.heap.size g ws HRs.out).mono ?_
  rintro e wt ⟨rfl, hb⟩
  have HRt := Aside0.mk (HRs.out.below hb)
  have HMt := Aside0.mk ((hb.block _ (blk_lt HMs.out)).trans HMs.out)
  have HPt := Aside0.mk ((hb.block _ (blk_lt HPs.out)).trans HPs.out)
  have HBt := Aside0.mk (below_then HBs.out HBs.out.size hb)
  have HCt := Aside0.mk (C_move_col HCs.out (hb.block sb HSs.out))
  have HSt := Aside0.mk (Nat.lt_of_lt_of_le HSs.out hb.size)
  have HEt := Aside0.mk (HEs.out.move (hb.block eb HELs.out))
  have HELt := Aside0.mk (Nat.lt_of_lt_of_le HELs.out hb.size)
  clear hb
  go_wp2_with (refine wpList_load_row rfl 27 (.tmp 2) rfl w.heap.size rfl 27 (MCells 0 0 (.slice (some ⟨sb, 0, none⟩) 1 cs) 1 (.slice (some ⟨eb, 0, none⟩) 1 ce)) (0, 0) _ HMt.out Tryz.underlying27 rfl (by kernel_rfl) ?_)
  refine (m_check sb cs eb ce wt ⟨HCS.out, HCE.out, HCt.out, HEt.out⟩).mono ?_
  rintro e wu ⟨rfl, hb⟩
  have HRu := Aside0.mk (HRt.out.below hb)
  have HMu := Aside0.mk ((hb.block _ (blk_lt HMt.out)).trans HMt.out)
  have HPu := Aside0.mk ((hb.block _ (blk_lt HPt.out)).trans HPt.out)
  have HBu := Aside0.mk (below_then HBt.out HBt.out.size hb)
  have HCu := Aside0.mk (C_move_col HCt.out (hb.block sb HSt.out))
  have HSu := Aside0.mk (Nat.lt_of_lt_of_le HSt.out hb.size)
  have HEu := Aside0.mk (HEt.out.move (hb.block eb HELt.out))
  clear hb
  go_wp2_with (first | (refine wpList_load_row rfl 27 (.tmp 2) rfl w.heap.size rfl 27 (MCells 0 0 (.slice (some ⟨sb, 0, none⟩) 1 cs) 1 (.slice (some ⟨eb, 0, none⟩) 1 ce)) (0, 0) _ HMu.out Tryz.underlying27 rfl (by kernel_rfl) ?_) | (refine wpList_store_row rfl 27 (.tmp 2) (.tmp 94) rfl w.heap.size (MCells 0 0 (.slice (some ⟨sb, 0, none⟩) 1 cs) 1 (.slice (some ⟨eb, 0, none⟩) 1 ce)) rfl rfl 27 (MCells 0 0 (.slice (some ⟨sb, 0, none⟩) 1 cs) 1 (.slice (some ⟨eb, 0, none⟩) 1 ce)) HMu.out (by kernel_rfl) rfl (by kernel_rfl) ?_))
  rw [setRow_self wu w.heap.size _ _ _ HMu.out]
  refine bodyPost_ret (v := .tuple #[ManV sb cs eb ce, .nilIface]) (results_cr_tmp (p := 2) (u := 3) rfl _ _ w.heap.size 27 (MCells 0 0 (.slice (some ⟨sb, 0, none⟩) 1 cs) 1 (.slice (some ⟨eb, 0, none⟩) 1 ce)) (0, 0) _ rfl HMu.out Tryz.underlying27 rfl (by kernel_rfl)) rfl ?_
  exact ⟨sb, cs, eb, ce, rfl, ⟨HCS.out, HCE.out, HCu.out, HEu.out⟩, HSW.out, HEW.out, HBu.out⟩
end Go.Proofs.YtjmhiklmlgbifaaGreatDoor.PMan
end
section
namespace Go.Proofs.YtjmhiklmlgbifaaGreatDoor.PMan
open Go.RowKit Go.Proofs.YtjmhiklmlgbifaaGreatDoorW.PrintWords Go.Proofs.YtjmhiklmlgbifaaGreatDoorW.PrintLast Go.Proofs.YtjmhiklmlgbifaaGreatDoorW.PrintMore
attribute [local go_sem] max2_int min2_int max_two min_two max_three min_three max_four min_four   -- for this text's walks alone
set_option linter.unusedVariables false
set_option linter.unusedSimpArgs false
/-- What frame.read tells of bytes: a frame's part and 0, or an error's number. -/
def frame_read.f (l : List Int) : Option (List Int × Int) :=
  (num_Reader_Fix.f (l.take 8) 0 0 0 4).bind fun a =>
  (num_Reader_Fix.f (l.take 8) a.2.1 a.2.2.1 a.2.2.2 4).bind fun b =>
  if 4 ≤ l.length ∧ a.1 > 16777216 then some ([], 12)
  else if b.2.2.1 = 0 then
    if 8 ≤ l.length ∧ 0 ≤ a.1 ∧ a.1 ≤ 16777216 then
      if (l.length : Int) - 8 < a.1 then some ([], 2)
      else (crc_Sum.f (l.take 4)).bind fun s1 => (crc_More.f s1 ((l.take (8 + a.1).toNat).drop 8)).bind fun s2 =>
        if b.1 % 4294967296 = s2 then some ((l.take (8 + a.1).toNat).drop 8, 0) else some ([], 6)
    else none
  else some ([], b.2.2.1)
def brokenW (c : Int) : Value := if c = 0 then .nilIface else .iface 176 (.agg #[.iface 31 (.int .i64 c)])
set_option maxHeartbeats 4000000 in
set_option maxRecDepth 100000 in
theorem frame_read_calls (A0 : Option Addr) (c0 : Nat) (l : List Int) (p : List Int) (c : Int) (w : World) (hr0 : Kd.C (Kd.int .u8) w A0 l.length l) (hc0 : l.length ≤ c0) (hG : ErrT w) (h : frame_read.f l = some (p, c)) :
    Calls Tryz.prog 86 #[.slice A0 l.length c0] w fun e w' => ∃ v, e = .returned (.tuple #[v, brokenW c]) ∧ Kd.R (Kd.int .u8) 5 w' w.heap.size (fun _ => True) v p ∧ Below w.heap.size w w' := by
  have hm := Kd.C_max hr0
  obtain ⟨i0, hi0, hz0⟩ := Option.map_eq_some_iff.1 clone_info
  simp only [Prod.mk.injEq] at hz0
  obtain ⟨⟨n, a1, a2, a3⟩, ha, h⟩ := Option.bind_eq_some_iff.mp h
  obtain ⟨⟨sm, b1, b2, b3⟩, hb, h⟩ := Option.bind_eq_some_iff.mp h
  simp only at hb h
  -- the first eight bytes
  have ht8 : l.take 8 = l.take (((min l.length 8 : Nat) : Int)).toNat := by
    rw [Int.toNat_natCast]
    rcases Nat.le_total l.length 8 with h8 | h8
    · rw [Nat.min_eq_left h8, List.take_of_length_le h8, List.take_length]
    · rw [Nat.min_eq_right h8]
  obtain ⟨hc8, hr8, hl8⟩ := print_take_int (P := Tryz.prog) (k := .u8) 30 5 Tryz.underlying30 hi0 hz0.2.1 A0 c0 l ((min l.length 8 : Nat) : Int) (by omega) (by omega) hc0
  rw [← ht8] at hc8 hr8 hl8
  have K8 := Aside0.mk (Kd.C_of_reads (d := (0 : Int)) (h1 := fun _ => rfl) (hr8 w (Kd.reads_of_C hr0)))
  have L8 := Aside0.mk hl8
  have S8 : Aside0 ((l.take 8).length < 140737488355328) := ⟨by rw [List.length_take]; omega⟩
  have HR := Aside0.mk hr0
  have HC := Aside0.mk hc0
  have HGL := Aside0.mk hG
  have HA := Aside0.mk ha
  have HB := Aside0.mk hb
  have H := Aside0.mk h
  have HI0 := Aside0.mk hi0
  have HZ0 := Aside0.mk hz0
  have HM := Aside0.mk hm
  clear hr0 hc0 hG ha hb h hr8 hl8 ht8 hi0 hz0
  have hcase : (4 ≤ l.length ∧ 16777216 < n ∧ p = [] ∧ c = 12) ∨ (¬ (4 ≤ l.length ∧ 16777216 < n) ∧ b2 ≠ 0 ∧ p = [] ∧ c = b2) ∨
      (b2 = 0 ∧ 8 ≤ l.length ∧ 0 ≤ n ∧ n ≤ 16777216 ∧ (l.length : Int) - 8 < n ∧ p = [] ∧ c = 2) ∨
      (b2 = 0 ∧ 8 ≤ l.length ∧ 0 ≤ n ∧ n ≤ 16777216 ∧ ¬ ((l.length : Int) - 8 < n) ∧ ∃ s1 s2, crc_Sum.f (l.take 4) = some s1 ∧ crc_More.f s1 ((l.take (8 + n).toNat).drop 8) = some s2 ∧
        ((sm % 4294967296 = s2 ∧ p = (l.take (8 + n).toNat).drop 8 ∧ c = 0) ∨ (¬ (sm % 4294967296 = s2) ∧ p = [] ∧ c = 6))) := by
    have h := H.out
    by_cases q1 : 4 ≤ l.length ∧ n > 16777216
    · rw [if_pos q1] at h
      have h := Option.some.inj h
      simp only [Prod.mk.injEq] at h
      exact .inl ⟨q1.1, q1.2, h.1.symm, h.2.symm⟩
    · rw [if_neg q1] at h
      by_cases q2 : b2 = 0
      · rw [if_pos q2] at h
        by_cases q3 : 8 ≤ l.length ∧ 0 ≤ n ∧ n ≤ 16777216
        · rw [if_pos q3] at h
          by_cases q4 : (l.length : Int) - 8 < n
          · rw [if_pos q4] at h
            have h := Option.some.inj h
            simp only [Prod.mk.injEq] at h
            exact .inr (.inr (.inl ⟨q2, q3.1, q3.2.1, q3.2.2, q4, h.1.symm, h.2.symm⟩))
          · rw [if_neg q4] at h
            obtain ⟨s1, e1, h⟩ := Option.bind_eq_some_iff.mp h
            obtain ⟨s2, e2, h⟩ := Option.bind_eq_some_iff.mp h
            refine .inr (.inr (.inr ⟨q2, q3.1, q3.2.1, q3.2.2, q4, s1, s2, e1, e2, ?_⟩))
            by_cases q5 : sm % 4294967296 = s2
            · rw [if_pos q5] at h
              have h := Option.some.inj h
              simp only [Prod.mk.injEq] at h
              exact .inl ⟨q5, h.1.symm, h.2.symm⟩
            · rw [if_neg q5] at h
              have h := Option.some.inj h
              simp only [Prod.mk.injEq] at h
              exact .inr ⟨q5, h.1.symm, h.2.symm⟩
        · rw [if_neg q3] at h
          cases h
      · rw [if_neg q2] at h
        have h := Option.some.inj h
        simp only [Prod.mk.injEq] at h
        exact .inr (.inl ⟨q1, q2, h.1.symm, h.2.symm⟩)
  have HCASE := Aside0.mk hcase
  clear hcase H h
  have e8 : (l.take 8).length = min 8 l.length := List.length_take
  generalize l.take 8 = l8 at *
  have hnew := fun (W : World) (hk : Kd.C (Kd.int .u8) W A0 l8.length l8) => rd_new A0 c0 l8 W hk L8.out S8.out
  have HNEW : Aside0 (∀ k : Nat, k = l8.length → ∀ W : World, Kd.C (Kd.int .u8) W A0 l8.length l8 → Calls Tryz.prog 87 #[.slice A0 k c0] W fun e w' => ∃ g w1, e = .returned (.pointer (some ⟨g, 0, none⟩)) ∧ RD w1 w' g l8 0 0 0 ∧ Below W.heap.size W w1 ∧ Below w1.heap.size w1 w') := ⟨fun k hk => by subst hk; exact hnew⟩
  have HE8 := Aside0.mk e8
  clear hnew e8 hc8
  have hc1 := HC.out
  by_cases h8 : (8 : Int) < (l.length : Int)
  all_goals
    go_enter Tryz.func86, Tryz.ntmps86
    go_wp2_with fail
    refine (HNEW.out _ (by have := HE8.out; omega) _ K8.out).mono ?_
    rintro e w1 ⟨g, wr, rfl, hrd, hb1, hb2⟩
    have RDH := Aside0.mk hrd
    have HB1 := Aside0.mk hb1
    have HB2 := Aside0.mk hb2
    clear hrd hb1 hb2 hc1 h8
    go_wp2_with fail
    refine (num_Reader_Fix.calls g l8 0 0 0 4 n a1 a2 a3 wr _ RDH.out HB2.out HA.out).mono ?_
    rintro e w2 ⟨rfl, hrd, hb, _⟩
    have RD2 := Aside0.mk hrd
    have HB3 := Aside0.mk hb
    clear hrd hb
    go_wp2_with fail
    refine (num_Reader_Fix.calls g l8 a1 a2 a3 4 sm b1 b2 b3 wr _ RD2.out HB3.out HB.out).mono ?_
    rintro e w3 ⟨rfl, hrd, hb, _⟩
    have RD3 := Aside0.mk hrd
    have HB4 := Aside0.mk hb
    clear hrd hb
    go_wp2_with fail
    refine (rd_err g l8 b1 b2 b3 wr _ (HGL.out.below (HB1.out.trans (HB4.out.mono HB1.out.size))) RD3.out).mono ?_
    rintro e w4 ⟨rfl, hb⟩
    have HW := Aside0.mk (below_then (HB1.out.trans (HB4.out.mono HB1.out.size)) (Nat.le_trans HB1.out.size HB4.out.size) hb)
    clear hb RD3 RD2 RDH HB1 HB2 HB3 HB4 HA HB K8 L8 S8
    rcases HCASE.out with ⟨q1, q2, rfl, rfl⟩ | ⟨q1, q2, rfl, rfl⟩ | ⟨rfl, q1, q2, q3, q4, rfl, rfl⟩ | ⟨rfl, q1, q2, q3, q4, s1, s2, e1, e2, hq⟩
    · have d1 : decide ((4 : Int) ≤ (l.length : Int)) = true := by simp <;> omega
      have d2 : decide ((16777216 : Int) < n) = true := by simpa using q2
      clear q1 q2
      go_wp2
      go_ret2
      exact ⟨_, rfl, Kd.R_nil _ _ _ _ _, HW.out⟩
    · have d3 : (c != 0) = true := by simpa using q2
      have Q2 := Aside0.mk q2
      by_cases q4 : 4 ≤ l.length
      · have d1 : decide ((4 : Int) ≤ (l.length : Int)) = true := by simp <;> omega
        have d2 : decide ((16777216 : Int) < n) = false := by simp only [decide_eq_false_iff_not]; omega
        clear q1 q2 q4
        go_wp2
        go_ret2
        exact ⟨_, by unfold brokenW; rw [if_neg Q2.out]; rfl, Kd.R_nil _ _ _ _ _, HW.out⟩
      · have d1 : decide ((4 : Int) ≤ (l.length : Int)) = false := by simp <;> omega
        clear q1 q2 q4
        go_wp2
        go_ret2
        exact ⟨_, by unfold brokenW; rw [if_neg Q2.out]; rfl, Kd.R_nil _ _ _ _ _, HW.out⟩
    · have d1 : decide ((4 : Int) ≤ (l.length : Int)) = true := by simp <;> omega
      have d2 : decide ((16777216 : Int) < n) = false := by simp only [decide_eq_false_iff_not]; omega
      have q5 : (8 : Int) ≤ (l.length : Int) := by omega
      have q6 : (l.length : Int) ≤ 9223372036854775807 := by have := HM.out; omega
      have d4 : decide ((l.length : Int) - 8 < n) = true := by simpa using q4
      clear q1 q4
      go_wp2
      go_ret2
      exact ⟨_, rfl, Kd.R_nil _ _ _ _ _, HW.out⟩
    · have d1 : decide ((4 : Int) ≤ (l.length : Int)) = true := by simp <;> omega
      have d2 : decide ((16777216 : Int) < n) = false := by simp only [decide_eq_false_iff_not]; omega
      have q5 : (8 : Int) ≤ (l.length : Int) := by omega
      have q6 : (l.length : Int) ≤ 9223372036854775807 := by have := HM.out; omega
      have d4 : decide ((l.length : Int) - 8 < n) = false := by simpa using q4
      obtain ⟨hc4, hr4, hl4⟩ := print_take_int (P := Tryz.prog) (k := .u8) 30 5 Tryz.underlying30 HI0.out HZ0.out.2.1 A0 c0 l 4 (by omega) (by omega) HC.out
      obtain ⟨A', hcp, hrp, hlp⟩ := print_mid_int (P := Tryz.prog) (k := .u8) 30 5 Tryz.underlying30 HI0.out HZ0.out.2.1 A0 c0 l 8 (8 + n) (by omega) (by omega) (by omega) HC.out
      have k4 : Kd.C (Kd.int .u8) w A0 (l.take 4).length (l.take 4) := Kd.C_of_reads (d := (0 : Int)) (h1 := fun _ => rfl) (hr4 w (Kd.reads_of_C HR.out))
      have kp : Kd.C (Kd.int .u8) w A' ((l.take (8 + n).toNat).drop 8).length ((l.take (8 + n).toNat).drop 8) := Kd.C_of_reads (d := (0 : Int)) (h1 := fun _ => rfl) (hrp w (Kd.reads_of_C HR.out))
      replace hlp : ((l.take (8 + n).toNat).drop 8).length ≤ c0 - 8 := hlp
      replace hl4 : (l.take 4).length ≤ c0 := hl4
      replace hc4 : ∀ W : World, (Instr.slice 30 (.slice A0 l.length c0) none (some (.int .i64 4)) none).run Tryz.prog W = .ok (.slice A0 (l.take 4).length c0) W := hc4
      replace hcp : ∀ W : World, (Instr.slice 30 (.slice A0 l.length c0) (some (.int .i64 8)) (some (.int .i64 (8 + n))) none).run Tryz.prog W = .ok (.slice A' ((l.take (8 + n).toNat).drop 8).length (c0 - 8)) W := hcp
      have sp : ((l.take (8 + n).toNat).drop 8).length < 140737488355328 := by rw [List.length_drop, List.length_take]; omega
      have z4 : 4 = (l.take 4).length := by rw [List.length_take]; omega
      have zp : (l.take (8 + n).toNat).drop 8 = (l.take (8 + n).toNat).drop 8 := rfl
      generalize (l.take (8 + n).toNat).drop 8 = pl at *
      generalize l.take 4 = l4 at *
      have K4 := Aside0.mk k4
      have KP := Aside0.mk kp
      have LP := Aside0.mk hlp
      have L4 := Aside0.mk hl4
      have SP := Aside0.mk sp
      have Z4 := Aside0.mk z4
      have E1 := Aside0.mk e1
      have E2 := Aside0.mk e2
      have HQ := Aside0.mk hq
      have hc1 := HC.out
      clear hr4 hrp hlp hl4 e1 e2 hq q4 k4 kp sp z4 zp
      go_wp2_with fail
      refine (crc_Sum.calls A0 c0 l4 s1 _ (Kd.C_below K4.out HW.out) L4.out E1.out).mono ?_
      rintro e w5 ⟨rfl, hb⟩
      have HW5 := Aside0.mk (below_step HW.out hb)
      clear hb
      go_wp2_with fail
      refine (crc_More.calls s1 A' (c0 - 8) pl s2 _ (Kd.C_below KP.out HW5.out) LP.out E2.out).mono ?_
      rintro e w6 ⟨rfl, hb⟩
      have HW6 := Aside0.mk (below_step HW5.out hb)
      clear hb
      rcases HQ.out with ⟨q7, rfl, rfl⟩ | ⟨q7, rfl, rfl⟩
      · have d7 : (sm % 4294967296 != s2) = false := by simpa using q7
        clear q7
        go_wp2_with fail
        refine (bytes_Clone.calls A' (c0 - 8) p p _ (Kd.C_below KP.out HW6.out) LP.out (by unfold bytes_Clone.f; rw [if_pos SP.out])).mono ?_
        rintro e w7 ⟨v, rfl, hr, hb⟩
        have HRV := Aside0.mk (Kd.R_lower hr HW6.out.size)
        have HW7 := Aside0.mk (below_step HW6.out hb)
        clear hr hb
        go_wp2
        go_ret2
        exact ⟨_, rfl, HRV.out, HW7.out⟩
      · have d7 : (sm % 4294967296 != s2) = true := by simpa using q7
        clear q7
        go_wp2
        go_ret2
        exact ⟨_, rfl, Kd.R_nil _ _ _ _ _, HW6.out⟩
end Go.Proofs.YtjmhiklmlgbifaaGreatDoor.PMan
end
section
namespace Go.Proofs.YtjmhiklmlgbifaaGreatDoor.PMan
open Go.RowKit Go.Proofs.YtjmhiklmlgbifaaGreatDoorW.PrintWords Go.Proofs.YtjmhiklmlgbifaaGreatDoorW.PrintLast Go.Proofs.YtjmhiklmlgbifaaGreatDoorW.PrintMore
attribute [local go_sem] max2_int min2_int max_two min_two max_three min_three max_four min_four   -- for this text's walks alone
set_option linter.unusedVariables false
set_option linter.unusedSimpArgs false
/-- frame.Get: a frame's part, how many bytes the frame has, and 0; or an error's number. -/
def frame_Get.f (l : List Int) : Option (List Int × Int × Int) :=
  (frame_read.f l).bind fun r => if r.2 = 0 then some (r.1, wrap64 (8 + (r.1.length : Int)), 0) else if r.2 = 12 ∨ r.2 = 2 ∨ r.2 = 6 then some ([], 0, r.2) else none
set_option maxHeartbeats 4000000 in
set_option maxRecDepth 100000 in
theorem frame_get_a (A0 : Option Addr) (c0 : Nat) (l : List Int) (p : List Int) (w : World) (hr0 : Kd.C (Kd.int .u8) w A0 l.length l) (hc0 : l.length ≤ c0) (hG : ErrT w) (h : frame_read.f l = some (p, 12)) :
    Calls Tryz.prog 53 #[.slice A0 l.length c0] w fun e w' => e = .returned (.tuple #[.slice none 0 0, .int .i64 0, .int .i64 12]) ∧ Below w.heap.size w w' := by
  have HR := Aside0.mk hr0
  have HC := Aside0.mk hc0
  have HGL := Aside0.mk hG
  have H := Aside0.mk h
  clear hr0 hc0 hG h
  go_enter Tryz.func53, Tryz.ntmps53
  go_wp2_with fail
  refine (frame_read_calls A0 c0 l p 12 _ HR.out HC.out HGL.out H.out).mono ?_
  rintro e w1 ⟨v, rfl, hr, hb⟩
  rw [show brokenW 12 = .iface 176 (.agg #[.iface 31 (.int .i64 12)]) from rfl]
  obtain ⟨Av, cv, rfl⟩ := Kd.R_slice hr
  have HRV := Aside0.mk hr
  have HW := Aside0.mk hb
  clear hr hb
  go_wp2_with fail
  refine wp_loop_rounds 4 ?_
  rw [rounds_succ]
  go_wp2_with fail
  refine (is_broken 12 12 _).mono ?_
  rintro e w2 ⟨rfl, hb⟩
  rw [show ((12 : Int) == 12) = true from by decide]
  have x0 := (hb.block w1.heap.size (by simp)).trans (heap_alloc_new w1 (.cells #[.int .i64 12, .int .i64 2, .int .i64 6] 31))
  have HW0 := Aside0.mk (below_step (below_alloc HW.out (.cells #[.int .i64 12, .int .i64 2, .int .i64 6] 31)) hb)
  have c00 := blk_cell x0 0
  have c10 := blk_cell x0 1
  have c20 := blk_cell x0 2
  simp only [List.getElem?_toArray] at c00 c10 c20
  have X0 := Aside0.mk x0
  clear hb x0
  go_wp2
  refine bodyPost_ret (v := .tuple #[.slice none 0 0, .int .i64 0, .int .i64 12]) ?_ rfl ⟨rfl, HW0.out⟩
  simp [results, Tryz.results53, go_sem]
set_option maxHeartbeats 4000000 in
set_option maxRecDepth 100000 in
theorem frame_get_b (A0 : Option Addr) (c0 : Nat) (l : List Int) (p : List Int) (w : World) (hr0 : Kd.C (Kd.int .u8) w A0 l.length l) (hc0 : l.length ≤ c0) (hG : ErrT w) (h : frame_read.f l = some (p, 2)) :
    Calls Tryz.prog 53 #[.slice A0 l.length c0] w fun e w' => e = .returned (.tuple #[.slice none 0 0, .int .i64 0, .int .i64 2]) ∧ Below w.heap.size w w' := by
  have HR := Aside0.mk hr0
  have HC := Aside0.mk hc0
  have HGL := Aside0.mk hG
  have H := Aside0.mk h
  clear hr0 hc0 hG h
  go_enter Tryz.func53, Tryz.ntmps53
  go_wp2_with fail
  refine (frame_read_calls A0 c0 l p 2 _ HR.out HC.out HGL.out H.out).mono ?_
  rintro e w1 ⟨v, rfl, hr, hb⟩
  rw [show brokenW 2 = .iface 176 (.agg #[.iface 31 (.int .i64 2)]) from rfl]
  obtain ⟨Av, cv, rfl⟩ := Kd.R_slice hr
  have HRV := Aside0.mk hr
  have HW := Aside0.mk hb
  clear hr hb
  go_wp2_with fail
  refine wp_loop_rounds 4 ?_
  rw [rounds_succ]
  go_wp2_with fail
  refine (is_broken 2 12 _).mono ?_
  rintro e w2 ⟨rfl, hb⟩
  rw [show ((2 : Int) == 12) = false from by decide]
  have x0 := (hb.block w1.heap.size (by simp)).trans (heap_alloc_new w1 (.cells #[.int .i64 12, .int .i64 2, .int .i64 6] 31))
  have HW0 := Aside0.mk (below_step (below_alloc HW.out (.cells #[.int .i64 12, .int .i64 2, .int .i64 6] 31)) hb)
  have c00 := blk_cell x0 0
  have c10 := blk_cell x0 1
  have c20 := blk_cell x0 2
  simp only [List.getElem?_toArray] at c00 c10 c20
  have X0 := Aside0.mk x0
  clear hb x0
  go_wp2_with fail
  rw [rounds_succ]
  go_wp2_with fail
  refine (is_broken 2 2 _).mono ?_
  rintro e w3 ⟨rfl, hb⟩
  rw [show ((2 : Int) == 2) = true from by decide]
  have x1 := (hb.block w1.heap.size (blk_lt X0.out)).trans X0.out
  have HW1 := Aside0.mk (below_step HW0.out hb)
  have c01 := blk_cell x1 0
  have c11 := blk_cell x1 1
  have c21 := blk_cell x1 2
  simp only [List.getElem?_toArray] at c01 c11 c21
  have X1 := Aside0.mk x1
  clear hb x1
  go_wp2
  refine bodyPost_ret (v := .tuple #[.slice none 0 0, .int .i64 0, .int .i64 2]) ?_ rfl ⟨rfl, HW1.out⟩
  simp [results, Tryz.results53, go_sem]
set_option maxHeartbeats 4000000 in
set_option maxRecDepth 100000 in
theorem frame_get_c (A0 : Option Addr) (c0 : Nat) (l : List Int) (p : List Int) (w : World) (hr0 : Kd.C (Kd.int .u8) w A0 l.length l) (hc0 : l.length ≤ c0) (hG : ErrT w) (h : frame_read.f l = some (p, 6)) :
    Calls Tryz.prog 53 #[.slice A0 l.length c0] w fun e w' => e = .returned (.tuple #[.slice none 0 0, .int .i64 0, .int .i64 6]) ∧ Below w.heap.size w w' := by
  have HR := Aside0.mk hr0
  have HC := Aside0.mk hc0
  have HGL := Aside0.mk hG
  have H := Aside0.mk h
  clear hr0 hc0 hG h
  go_enter Tryz.func53, Tryz.ntmps53
  go_wp2_with fail
  refine (frame_read_calls A0 c0 l p 6 _ HR.out HC.out HGL.out H.out).mono ?_
  rintro e w1 ⟨v, rfl, hr, hb⟩
  rw [show brokenW 6 = .iface 176 (.agg #[.iface 31 (.int .i64 6)]) from rfl]
  obtain ⟨Av, cv, rfl⟩ := Kd.R_slice hr
  have HRV := Aside0.mk hr
  have HW := Aside0.mk hb
  clear hr hb
  go_wp2_with fail
  refine wp_loop_rounds 4 ?_
  rw [rounds_succ]
  go_wp2_with fail
  refine (is_broken 6 12 _).mono ?_
  rintro e w2 ⟨rfl, hb⟩
  rw [show ((6 : Int) == 12) = false from by decide]
  have x0 := (hb.block w1.heap.size (by simp)).trans (heap_alloc_new w1 (.cells #[.int .i64 12, .int .i64 2, .int .i64 6] 31))
  have HW0 := Aside0.mk (below_step (below_alloc HW.out (.cells #[.int .i64 12, .int .i64 2, .int .i64 6] 31)) hb)
  have c00 := blk_cell x0 0
  have c10 := blk_cell x0 1
  have c20 := blk_cell x0 2
  simp only [List.getElem?_toArray] at c00 c10 c20
  have X0 := Aside0.mk x0
  clear hb x0
  go_wp2_with fail
  rw [rounds_succ]
  go_wp2_with fail
  refine (is_broken 6 2 _).mono ?_
  rintro e w3 ⟨rfl, hb⟩
  rw [show ((6 : Int) == 2) = false from by decide]
  have x1 := (hb.block w1.heap.size (blk_lt X0.out)).trans X0.out
  have HW1 := Aside0.mk (below_step HW0.out hb)
  have c01 := blk_cell x1 0
  have c11 := blk_cell x1 1
  have c21 := blk_cell x1 2
  simp only [List.getElem?_toArray] at c01 c11 c21
  have X1 := Aside0.mk x1
  clear hb x1
  go_wp2_with fail
  rw [rounds_succ]
  go_wp2_with fail
  refine (is_broken 6 6 _).mono ?_
  rintro e w4 ⟨rfl, hb⟩
  rw [show ((6 : Int) == 6) = true from by decide]
  have x2 := (hb.block w1.heap.size (blk_lt X1.out)).trans X1.out
  have HW2 := Aside0.mk (below_step HW1.out hb)
  have c02 := blk_cell x2 0
  have c12 := blk_cell x2 1
  have c22 := blk_cell x2 2
  simp only [List.getElem?_toArray] at c02 c12 c22
  have X2 := Aside0.mk x2
  clear hb x2
  go_wp2
  refine bodyPost_ret (v := .tuple #[.slice none 0 0, .int .i64 0, .int .i64 6]) ?_ rfl ⟨rfl, HW2.out⟩
  simp [results, Tryz.results53, go_sem]
set_option maxHeartbeats 4000000 in
set_option maxRecDepth 100000 in
theorem frame_get_ok (A0 : Option Addr) (c0 : Nat) (l : List Int) (p : List Int) (w : World) (hr0 : Kd.C (Kd.int .u8) w A0 l.length l) (hc0 : l.length ≤ c0) (hG : ErrT w) (h : frame_read.f l = some (p, 0)) :
    Calls Tryz.prog 53 #[.slice A0 l.length c0] w fun e w' => ∃ v, e = .returned (.tuple #[v, .int .i64 (wrap64 (8 + (p.length : Int))), .int .i64 0]) ∧ Kd.R (Kd.int .u8) 5 w' w.heap.size (fun _ => True) v p ∧ Below w.heap.size w w' := by
  have HR := Aside0.mk hr0
  have HC := Aside0.mk hc0
  have HGL := Aside0.mk hG
  have H := Aside0.mk h
  clear hr0 hc0 hG h
  go_enter Tryz.func53, Tryz.ntmps53
  go_wp2_with fail
  refine (frame_read_calls A0 c0 l p 0 _ HR.out HC.out HGL.out H.out).mono ?_
  rintro e w1 ⟨v, rfl, hr, hb⟩
  rw [show brokenW 0 = .nilIface from rfl]
  obtain ⟨Av, cv, rfl⟩ := Kd.R_slice hr
  have HRV := Aside0.mk hr
  have HW := Aside0.mk hb
  clear hr hb
  go_wp2_with fail
  refine wp_loop_rounds 4 ?_
  rw [rounds_succ]
  go_wp2_with fail
  refine (is_nil 12 _).mono ?_
  rintro e w' ⟨rfl, rfl⟩
  go_wp2_with fail
  rw [rounds_succ]
  go_wp2_with fail
  refine (is_nil 2 _).mono ?_
  rintro e w' ⟨rfl, rfl⟩
  go_wp2_with fail
  rw [rounds_succ]
  go_wp2_with fail
  refine (is_nil 6 _).mono ?_
  rintro e w' ⟨rfl, rfl⟩
  go_wp2_with fail
  rw [rounds_succ]
  go_wp2_with fail
  refine bodyPost_ret (v := .tuple #[.slice Av p.length cv, .int .i64 (wrap64 (8 + (p.length : Int))), .int .i64 0]) ?_ rfl ⟨_, rfl, Kd.R_alloc HRV.out _, below_alloc HW.out _⟩
  simp [results, Tryz.results53, go_sem]
theorem frame_Get.calls (A0 : Option Addr) (c0 : Nat) (l0 : List Int) (r1 : List Int) (r2 r3 : Int) (w : World) (hr0 : Kd.C (Kd.int .u8) w A0 l0.length l0) (hc0 : l0.length ≤ c0) (hG : ErrT w) (h : frame_Get.f l0 = some (r1, r2, r3)) :
    Calls Tryz.prog 53 #[.slice A0 l0.length c0] w fun e w' => ∃ v0_ : Value, e = .returned (.tuple #[v0_, .int .i64 r2, .int .i64 r3]) ∧ Kd.R (Kd.int .u8) 5 w' w.heap.size (fun _ => True) v0_ r1 ∧ Below w.heap.size w w' := by
  unfold frame_Get.f at h
  obtain ⟨⟨p, c⟩, h1, h⟩ := Option.bind_eq_some_iff.mp h
  simp only at h
  by_cases hc : c = 0
  · rw [if_pos hc] at h
    have h := Option.some.inj h
    simp only [Prod.mk.injEq] at h
    obtain ⟨rfl, rfl, rfl⟩ := h
    subst hc
    exact frame_get_ok A0 c0 l0 p w hr0 hc0 hG h1
  · rw [if_neg hc] at h
    by_cases hd : c = 12 ∨ c = 2 ∨ c = 6
    · rw [if_pos hd] at h
      have h := Option.some.inj h
      simp only [Prod.mk.injEq] at h
      obtain ⟨rfl, rfl, rfl⟩ := h
      rcases hd with rfl | rfl | rfl
      · refine (frame_get_a A0 c0 l0 p w hr0 hc0 hG h1).mono ?_
        rintro e w' ⟨rfl, hb⟩
        exact ⟨_, rfl, Kd.R_nil _ _ _ _ _, hb⟩
      · refine (frame_get_b A0 c0 l0 p w hr0 hc0 hG h1).mono ?_
        rintro e w' ⟨rfl, hb⟩
        exact ⟨_, rfl, Kd.R_nil _ _ _ _ _, hb⟩
      · refine (frame_get_c A0 c0 l0 p w hr0 hc0 hG h1).mono ?_
        rintro e w' ⟨rfl, hb⟩
        exact ⟨_, rfl, Kd.R_nil _ _ _ _ _, hb⟩
    · rw [if_neg hd] at h
      cases h
end Go.Proofs.YtjmhiklmlgbifaaGreatDoor.PMan
end
section
namespace Go.Proofs.YtjmhiklmlgbifaaGreatDoor.PMan
open Go.RowKit Go.Proofs.YtjmhiklmlgbifaaGreatDoorW.PrintWords Go.Proofs.YtjmhiklmlgbifaaGreatDoorW.PrintLast Go.Proofs.YtjmhiklmlgbifaaGreatDoorW.PrintMore
attribute [local go_sem] max2_int min2_int max_two min_two max_three min_three max_four min_four   -- for this text's walks alone
set_option linter.unusedVariables false
set_option linter.unusedSimpArgs false
theorem leastF_get : frame_Get.f leastF = some (leastL, 83, 0) := by decide +kernel
theorem leastF_len : leastF.length = 83 := by decide +kernel
theorem m_belowRow {B : Nat} {w W : World} (h : Below B w W) (g : Nat) (hg : B ≤ g) (c : Array Value) : Below B w (W.setRow g c) :=
  ⟨h.os, h.tape, h.output, by rw [setRow_size]; exact h.size, fun k hk => (setRow_other W g k c (by omega)).trans (h.block k hk)⟩
set_option maxHeartbeats 4000000 in
set_option maxRecDepth 100000 in
theorem m_take (A0 : Option Addr) (c0 : Nat) (w : World) (hr0 : Kd.C (Kd.int .u8) w A0 leastF.length leastF) (hc0 : leastF.length ≤ c0) (hG : ErrT w) :
    Calls Tryz.prog 18 #[.slice A0 leastF.length c0] w fun ev w' => ∃ s cs e ce, ev = .returned (.tuple #[ManV s cs e ce, .int .i64 0]) ∧ ManP w' s cs e ce ∧ Below w.heap.size w w' := by
  have HR0 := Aside0.mk hr0
  have HC0 := Aside0.mk hc0
  have HG := Aside0.mk hG
  have hlen : decide ((83 : Int) < (leastF.length : Int)) = false := by rw [leastF_len]; rfl
  clear hr0 hc0 hG
  go_enter Tryz.func18, Tryz.ntmps18
  go_wp2_with fail
  have hm0 : (w.alloc (.cells (MCells 0 0 (.slice none 0 0) 0 (.slice none 0 0)) 27)).heap[w.heap.size]? = some (.cells (MCells 0 0 (.slice none 0 0) 0 (.slice none 0 0)) 27 (0, 0)) := heap_alloc_new w _
  have hb0 : Below w.heap.size w (w.alloc (.cells (MCells 0 0 (.slice none 0 0) 0 (.slice none 0 0)) 27)) := below_alloc (Below.refl _ _) _
  have HM0 := Aside0.mk hm0
  have HB0 := Aside0.mk hb0
  have HR1 := Aside0.mk (Kd.C_below HR0.out hb0)
  have HG0 := Aside0.mk (HG.out.of_below hb0)
  clear hm0 hb0
  generalize w.alloc (.cells (MCells 0 0 (.slice none 0 0) 0 (.slice none 0 0)) 27) = W0 at *
  refine (frame_Get.calls A0 c0 leastF leastL 83 0 W0 HR1.out HC0.out HG0.out leastF_get).mono ?_
  rintro e w1 ⟨v, rfl, hr, hb⟩
  obtain ⟨A, c, rfl⟩ := Kd.R_slice hr
  have hrd := Kd.R_reads' hr
  have HRD := Aside0.mk hrd.2.2
  have HCD := Aside0.mk hrd.2.1
  have HM1 := Aside0.mk ((hb.block _ (blk_lt HM0.out)).trans HM0.out)
  have HB1 := Aside0.mk (below_then HB0.out HB0.out.size hb)
  have HG1 := Aside0.mk (HG0.out.of_below hb)
  clear hr hb hrd
  go_wp2_with fail
  refine (m_read A c w1 HRD.out HCD.out HG1.out).mono ?_
  rintro e w2 ⟨s, cs, eb, ce, rfl, hM, hs, he, hb⟩
  have HMP := Aside0.mk hM
  have HSM := Aside0.mk (show s ≠ w.heap.size by have := blk_lt HM1.out; omega)
  have HEM := Aside0.mk (show eb ≠ w.heap.size by have := blk_lt HM1.out; omega)
  have HM2 := Aside0.mk ((hb.block _ (blk_lt HM1.out)).trans HM1.out)
  have HB2 := Aside0.mk (below_then HB1.out HB1.out.size hb)
  have hm3 := setRow_heap w2 w.heap.size _ (MCells 0 0 (.slice (some ⟨s, 0, none⟩) 1 cs) 1 (.slice (some ⟨eb, 0, none⟩) 1 ce)) _ _ HM2.out
  have hb3 := m_belowRow HB2.out w.heap.size (Nat.le_refl _) (MCells 0 0 (.slice (some ⟨s, 0, none⟩) 1 cs) 1 (.slice (some ⟨eb, 0, none⟩) 1 ce))
  have HM3 := Aside0.mk hm3
  have HB3 := Aside0.mk hb3
  have HMP3 := Aside0.mk (show ManP (w2.setRow w.heap.size (MCells 0 0 (.slice (some ⟨s, 0, none⟩) 1 cs) 1 (.slice (some ⟨eb, 0, none⟩) 1 ce))) s cs eb ce from ⟨hM.1, hM.2.1, C_move_col hM.2.2.1 (setRow_other _ _ _ _ HSM.out), hM.2.2.2.move (setRow_other _ _ _ _ HEM.out)⟩)
  clear hM hs he hb hm3 hb3
  go_wp2_with (refine wpList_store_row rfl 27 (.tmp 2) (.tmp 27) rfl w.heap.size (MCells 0 0 (.slice (some ⟨s, 0, none⟩) 1 cs) 1 (.slice (some ⟨eb, 0, none⟩) 1 ce)) rfl rfl 27 _ HM2.out (by kernel_rfl) rfl (by kernel_rfl) ?_)
  generalize w2.setRow w.heap.size (MCells 0 0 (.slice (some ⟨s, 0, none⟩) 1 cs) 1 (.slice (some ⟨eb, 0, none⟩) 1 ce)) = w3 at *
  refine (is_nil 4 w3).mono ?_
  rintro e w' ⟨rfl, rfl⟩
  go_wp2_with (first | (refine wpList_load_row rfl 27 (.tmp 2) rfl w.heap.size rfl 27 (MCells 0 0 (.slice (some ⟨s, 0, none⟩) 1 cs) 1 (.slice (some ⟨eb, 0, none⟩) 1 ce)) (0, 0) _ HM3.out Tryz.underlying27 rfl (by kernel_rfl) ?_) | (refine wpList_store_row rfl 27 (.tmp 2) (.tmp 33) rfl w.heap.size (MCells 0 0 (.slice (some ⟨s, 0, none⟩) 1 cs) 1 (.slice (some ⟨eb, 0, none⟩) 1 ce)) rfl rfl 27 _ HM3.out (by kernel_rfl) rfl (by kernel_rfl) ?_))
  rw [setRow_self w3 w.heap.size _ _ _ HM3.out]
  refine bodyPost_ret (v := .tuple #[ManV s cs eb ce, .int .i64 0]) (results_cr_tmp (p := 2) (u := 3) rfl _ _ w.heap.size 27 (MCells 0 0 (.slice (some ⟨s, 0, none⟩) 1 cs) 1 (.slice (some ⟨eb, 0, none⟩) 1 ce)) (0, 0) _ rfl HM3.out Tryz.underlying27 rfl (by kernel_rfl)) rfl ?_
  exact ⟨s, cs, eb, ce, rfl, HMP3.out, HB3.out⟩
end Go.Proofs.YtjmhiklmlgbifaaGreatDoor.PMan
end
section
namespace Go.Proofs.YtjmhiklmlgbifaaGreatDoor.PMan
open Go.RowKit Go.Proofs.YtjmhiklmlgbifaaGreatDoorW.PrintWords Go.Proofs.YtjmhiklmlgbifaaGreatDoorW.PrintLast Go.Proofs.YtjmhiklmlgbifaaGreatDoorW.PrintMore
attribute [local go_sem] max2_int min2_int max_two min_two max_three min_three max_four min_four   -- for this text's walks alone
set_option linter.unusedVariables false
set_option linter.unusedSimpArgs false
theorem eqA123 (d : Nat) (w : World) (x0 y0 : Int) (x1 y1 : Bool) (x2 y2 : Int) :
    (Op.equalIn (d + 2) 123 (.agg #[.int .i64 x0, .bool x1, .int .i64 x2]) (.agg #[.int .i64 y0, .bool y1, .int .i64 y2])).run Tryz.prog w = .ok (x0 == y0 && (x1 == y1 && (x2 == y2))) w := by
  refine eqA_of Tryz.underlying123 (by kernel_rfl) ?_
  refine eqf_cons (by rfl) (by go_simp; rfl) (by go_simp; rfl) (by go_simp) ?_
  refine eqf_cons (by rfl) (by go_simp; rfl) (by go_simp; rfl) (by go_simp) ?_
  exact eqf_last (by rfl) (by go_simp; rfl) (by go_simp; rfl) (by go_simp)
end Go.Proofs.YtjmhiklmlgbifaaGreatDoor.PMan
end

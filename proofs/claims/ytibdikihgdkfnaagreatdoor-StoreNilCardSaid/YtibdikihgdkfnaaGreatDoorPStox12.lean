-- Printed for this claim by a program of this session's own (it runs the kit's print another way): Lean checks it.
import Derived.Test.YtibdikihgdkfnaaGreatDoorPStox0
import Derived.Test.YtibdikihgdkfnaaGreatDoorPStox2
namespace Go.Proofs.YtibdikihgdkfnaaGreatDoor.PSto
open Go.RowKit Go.Proofs.YtibdikihgdkfnaaGreatDoorW.PrintWords Go.Proofs.YtibdikihgdkfnaaGreatDoorW.PrintLast Go.Proofs.YtibdikihgdkfnaaGreatDoorW.PrintMore
attribute [local go_sem] max2_int min2_int max_two min_two max_three min_three max_four min_four   -- for this text's walks alone
set_option linter.unusedVariables false
set_option linter.unusedSimpArgs false

-- NOT PRINTED: function 275 (texts_Put)

-- NOT PRINTED: function 150 (num_Zig)

-- NOT PRINTED: function 289 (plain_Put)

/-! ### words: rd -/
/-- What a reader's error is: none (0, 0), or a fault: its code and its place. -/
def RdErr (w0 W : World) (ev : Value) (ec ep : Int) : Prop :=
  (ec = 0 ∧ ep = 0 ∧ ev = .nilIface) ∨ (ec ≠ 0 ∧ ∃ h, w0.heap.size ≤ h ∧ ev = .iface 313 (.pointer (some ⟨h, 0, none⟩)) ∧ W.heap[h]? = some (.cells #[.int .i64 ep, .iface 31 (.int .i64 ec)] 315 (0, 0)))
/-- A reader at block g of W: its bytes (which came in by w0), its place, its error's code and place. -/
def RD (w0 W : World) (g : Nat) (f0 : List Int) (f1 f2 f3 : Int) : Prop :=
  ∃ A c ev, W.heap[g]? = some (.cells #[.slice A f0.length c, .int .i64 f1, ev] 308 (0, 0)) ∧ w0.heap.size ≤ g ∧ Kd.C (Kd.int .u8) w0 A f0.length f0 ∧ f0.length ≤ c ∧ RdErr w0 W ev f2 f3
theorem RdErr.move {w0 W W1 : World} {ev : Value} {ec ep : Int} (h : RdErr w0 W ev ec ep) (hw : ∀ k, w0.heap.size ≤ k → ∀ cs, W.heap[k]? = some (.cells cs 315 (0, 0)) → W1.heap[k]? = W.heap[k]?) : RdErr w0 W1 ev ec ep := by
  rcases h with h | ⟨h1, k, h2, h3, h4⟩
  · exact .inl h
  · exact .inr ⟨h1, k, h2, h3, (hw k h2 _ h4).trans h4⟩
theorem RD.below {w0 W W1 : World} {g : Nat} {f0 : List Int} {f1 f2 f3 : Int} (h : RD w0 W g f0 f1 f2 f3) (hb : Below W.heap.size W W1) : RD w0 W1 g f0 f1 f2 f3 := by
  obtain ⟨A, c, ev, h1, h2, h3, h4, h5⟩ := h
  exact ⟨A, c, ev, (hb.block g (blk_lt h1)).trans h1, h2, h3, h4, h5.move fun k _ cs hk => hb.block k (blk_lt hk)⟩
theorem RD.drewN {w0 W : World} {g : Nat} {f0 : List Int} {f1 f2 f3 : Int} (h : RD w0 W g f0 f1 f2 f3) (n : Nat) : RD w0 (W.drewN n) g f0 f1 f2 f3 := h
theorem RD.drew {w0 W : World} {g : Nat} {f0 : List Int} {f1 f2 f3 : Int} (h : RD w0 W g f0 f1 f2 f3) : RD w0 W.drew g f0 f1 f2 f3 := h
theorem RD.lt {w0 W : World} {g : Nat} {f0 : List Int} {f1 f2 f3 : Int} (h : RD w0 W g f0 f1 f2 f3) : g < W.heap.size := by
  obtain ⟨A, c, ev, h1, _⟩ := h
  exact blk_lt h1
/-- The reader's place turned. -/
theorem RD.set_at {w0 W : World} {g : Nat} {f0 : List Int} {f1 f2 f3 : Int} (h : RD w0 W g f0 f1 f2 f3) (x : Int) : RD w0 (W.setCell ⟨g, 1, none⟩ (.int .i64 x)) g f0 x f2 f3 := by
  obtain ⟨A, c, ev, h1, h2, h3, h4, h5⟩ := h
  refine ⟨A, c, ev, by simpa using blk_set h1 1 (.int .i64 x), h2, h3, h4, h5.move fun k _ cs hk => ?_⟩
  refine Below.heap_setCell W _ _ k (fun e => ?_)
  subst e
  rw [h1] at hk
  injection hk with hk
  injection hk with _ ht
  exact absurd ht (by decide)
theorem KeepBut.set1 {w W : World} {g : Nat} (h : KeepBut w W g none) (j : Nat) (u : Value) : KeepBut w (W.setCell ⟨g, j, none⟩ u) g none := h.set_ j u
theorem KeepBut.below_ {w W W1 : World} {g : Nat} (h : KeepBut w W g none) (hb : Below W.heap.size W W1) : KeepBut w W1 g none :=
  ⟨Nat.le_trans h.1 hb.size, fun i hi h1 h2 => (hb.block i (Nat.lt_of_lt_of_le hi h.1)).trans (h.2 i hi h1 h2)⟩

/-! ### num_NewReader: function 160 -/
set_option maxHeartbeats 800000 in
set_option maxRecDepth 100000 in
/-- num.NewReader(b): a reader of the same bytes, at their beginning; w1: the world in which the bytes' own copy lies already. -/
theorem rd_new (A0 : Option Addr) (c0 : Nat) (l0 : List Int) (w : World) (hr0 : Kd.C (Kd.int .u8) w A0 l0.length l0) (hc0 : l0.length ≤ c0) (hl : l0.length < 140737488355328) :
    Calls Tryz.prog 160 #[.slice A0 l0.length c0] w fun e w' => ∃ g w1, e = .returned (.pointer (some ⟨g, 0, none⟩)) ∧ RD w1 w' g l0 0 0 0 ∧ Below w.heap.size w w1 ∧ Below w1.heap.size w1 w' := by
  have HR := Aside0.mk hr0
  have HC := Aside0.mk hc0
  have HL := Aside0.mk hl
  clear hr0 hc0 hl
  go_enter Tryz.func160, Tryz.ntmps160
  go_wp2_with fail
  refine (bytes_Clone.calls A0 c0 l0 l0 _ HR.out HC.out (by unfold bytes_Clone.f; rw [if_pos HL.out])).mono ?_
  rintro e w1 ⟨v, rfl, hr, hb⟩
  obtain ⟨A, c, rfl⟩ := Kd.R_slice hr
  have H1 := Aside0.mk (Kd.R_reads' hr).2
  have H2 := Aside0.mk hb
  clear hr hb
  go_wp2
  go_ret
  exact ⟨_, w1, rfl, ⟨A, c, _, heap_alloc_new w1 _, Nat.le_refl _, H1.out.2, H1.out.1, .inl ⟨rfl, rfl, rfl⟩⟩, H2.out, below_alloc (Below.refl _ _) _⟩

-- NOT PRINTED: function 108 (reflectlite_ValueOf)

-- NOT PRINTED: function 109 (reflectlite_Value_Type)

-- NOT PRINTED: function 110 (reflectlite_Value_IsNil)

-- NOT PRINTED: function 106 (reflectlite_TypeOf)

-- NOT PRINTED: function 153 (reflectlite_Value_Elem)

-- NOT PRINTED: function 154 (reflectlite_Value_Set)

-- NOT PRINTED: function 111 (errors_as)

end Go.Proofs.YtibdikihgdkfnaaGreatDoor.PSto

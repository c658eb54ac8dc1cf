/- Texts of this proof, put into one, without what it does not use: PManx0, PManx5, MpA, MpC. -/
import Derived.Test.YtjmhiklmlgbifaaGreatDoorProg
import Derived.Below
import Derived.Deep.Draws
import Derived.Deep.AppendLies
import Derived.Maps.AppendAt
import Derived.OwnWalk
import Derived.Laws.BytesArg
import Derived.Laws.MakeOwn
import Derived.Laws.OwnMore
import Derived.Deep.OwnRows
import Derived.Tactics
import Derived.Lib.ConvBytes
import Derived.Laws.Slices
import Derived.WalkKit
import Derived.KernelRfl
import Derived.RowKit3
import Derived.Deep.LoopGhost
import Derived.Deep.QuietTactic
import Derived.BigQuiet
import Derived.WideLaws
import Derived.Deep.DeepCutAuto
import Derived.Deep.CutBlock
import Derived.Deep.RegionHeld3
import Derived.Laws.Rows
import Derived.Lib.AppendStr
import Derived.ArgAppend
import Derived.Laws.IdiomCopy
import Derived.OrdersHeld
import Derived.Laws.BitsLemmas
import Derived.RowKit
import Derived.Deep.WholeRow
import Derived.Lib.SlBytesConst
import Derived.StillTailTactics
import Derived.Stop.Asserts
import Derived.LaidEql
import Derived.RowKitTokens
import Derived.Handy
import Derived.RegionTactic
import Derived.Lib.IfaceEq
import Derived.Deep.MidRow
import Derived.Test.YtjmhiklmlgbifaaGreatDoorPB1
import Derived.Test.YtjmhiklmlgbifaaGreatDoorPB2
import Derived.Test.YtjmhiklmlgbifaaGreatDoorPB3
import Derived.Laws.Cover1
section
namespace Go.Proofs.YtjmhiklmlgbifaaGreatDoor.PMan
open Go.RowKit Go.Proofs.YtjmhiklmlgbifaaGreatDoorW.PrintWords Go.Proofs.YtjmhiklmlgbifaaGreatDoorW.PrintLast Go.Proofs.YtjmhiklmlgbifaaGreatDoorW.PrintMore
attribute [local go_sem] max2_int min2_int max_two min_two max_three min_three max_four min_four   -- for this text's walks alone
set_option linter.unusedVariables false
set_option linter.unusedSimpArgs false
def errW : Option Int → Value
  | none => .nilIface
  | some c => .iface 0 (.int .i64 c)
theorem errW_none : errW none = .nilIface := rfl
theorem errW_some (c : Int) : errW (some c) = .iface 0 (.int .i64 c) := rfl
theorem info5 : (Tryz.prog.info? 5).map (fun i => (i.zero, i.size, i.bytes)) = some (some (.int .u8 0), 1, 1) := by kernel_rfl
structure S123 where
  f0 : Int
  f1 : Bool
  f2 : Int
def z123 : S123 := ⟨(0 : Int), false, (0 : Int)⟩
def k123 : Kd S123 := Kd.iso (Kd.pair (Kd.int .i64) (Kd.pair Kd.bool (Kd.int .i64))) (fun x : S123 => (x.f0, x.f1, x.f2))
theorem k123_open {w : World} {x : S123} {cs : List Value} (h : k123.K w x cs) : cs = [.int .i64 x.f0, .bool x.f1, .int .i64 x.f2] := by
  obtain ⟨_, _, rfl, rfl, ⟨_, _, rfl, rfl, rfl⟩⟩ := h
  exact rfl
theorem k123_mk (w : World) (x : S123)  : k123.K w x [.int .i64 x.f0, .bool x.f1, .int .i64 x.f2] := ⟨[.int .i64 x.f0], [.bool x.f1, .int .i64 x.f2], rfl, rfl, ⟨[.bool x.f1], [.int .i64 x.f2], rfl, rfl, rfl⟩⟩
theorem k123_mkM (w : World) (base : Nat) (ok : Nat → Prop) (x : S123)  : k123.M w base ok x [.int .i64 x.f0, .bool x.f1, .int .i64 x.f2] := ⟨[.int .i64 x.f0], [.bool x.f1, .int .i64 x.f2], rfl, rfl, ⟨[.bool x.f1], [.int .i64 x.f2], rfl, rfl, rfl⟩⟩
def rd_T123 (xs : List S123) (i : Int) : S123 := xs.getD i.toNat z123
theorem at_T123 {w : World} {A : Option Addr} {n : Nat} {xs : List S123} (h : Kd.C k123 w A n xs) (i : Int) (h0 : 0 ≤ i) (h1 : i < n) : ∃ ad , A = some ad ∧ w.cell? (ad.add (i.toNat * 3)) = some (.int .i64 (rd_T123 xs i).f0) ∧ w.cell? ⟨(ad.add (i.toNat * 3)).block, (ad.add (i.toNat * 3)).off + 1, none⟩ = some (.bool (rd_T123 xs i).f1) ∧ w.cell? ⟨(ad.add (i.toNat * 3)).block, (ad.add (i.toNat * 3)).off + 2, none⟩ = some (.int .i64 (rd_T123 xs i).f2) := by
  obtain ⟨ad, c, e, _, hK, hc0⟩ := Kd.C_get h z123 i h0 h1
  have hc : ∀ j u, c[j]? = some u → w.cell? (ad.add (i.toNat * 3 + j)) = some u := hc0
  obtain rfl := k123_open hK
  exact ⟨ad, e, hc 0 _ rfl, by rw [← add_field _ _ 1 (by omega)]; exact hc 1 _ rfl, by rw [← add_field _ _ 2 (by omega)]; exact hc 2 _ rfl⟩
structure S68 where
  f0 : Int
  f1 : Int
  f2 : ByteArray
def z68 : S68 := ⟨(0 : Int), (0 : Int), (⟨#[]⟩ : ByteArray)⟩
def k68 : Kd S68 := Kd.iso (Kd.pair (Kd.int .i64) (Kd.pair (Kd.int .i64) Kd.string)) (fun x : S68 => (x.f0, x.f1, x.f2))
theorem k68_open {w : World} {x : S68} {cs : List Value} (h : k68.K w x cs) : cs = [.int .i64 x.f0, .int .i64 x.f1, .string x.f2] := by
  obtain ⟨_, _, rfl, rfl, ⟨_, _, rfl, rfl, rfl⟩⟩ := h
  exact rfl
theorem k68_mk (w : World) (x : S68)  : k68.K w x [.int .i64 x.f0, .int .i64 x.f1, .string x.f2] := ⟨[.int .i64 x.f0], [.int .i64 x.f1, .string x.f2], rfl, rfl, ⟨[.int .i64 x.f1], [.string x.f2], rfl, rfl, rfl⟩⟩
theorem k68_mkM (w : World) (base : Nat) (ok : Nat → Prop) (x : S68)  : k68.M w base ok x [.int .i64 x.f0, .int .i64 x.f1, .string x.f2] := ⟨[.int .i64 x.f0], [.int .i64 x.f1, .string x.f2], rfl, rfl, ⟨[.int .i64 x.f1], [.string x.f2], rfl, rfl, rfl⟩⟩
def rd_T68 (xs : List S68) (i : Int) : S68 := xs.getD i.toNat z68
theorem at_T68 {w : World} {A : Option Addr} {n : Nat} {xs : List S68} (h : Kd.C k68 w A n xs) (i : Int) (h0 : 0 ≤ i) (h1 : i < n) : ∃ ad , A = some ad ∧ w.cell? (ad.add (i.toNat * 3)) = some (.int .i64 (rd_T68 xs i).f0) ∧ w.cell? ⟨(ad.add (i.toNat * 3)).block, (ad.add (i.toNat * 3)).off + 1, none⟩ = some (.int .i64 (rd_T68 xs i).f1) ∧ w.cell? ⟨(ad.add (i.toNat * 3)).block, (ad.add (i.toNat * 3)).off + 2, none⟩ = some (.string (rd_T68 xs i).f2) := by
  obtain ⟨ad, c, e, _, hK, hc0⟩ := Kd.C_get h z68 i h0 h1
  have hc : ∀ j u, c[j]? = some u → w.cell? (ad.add (i.toNat * 3 + j)) = some u := hc0
  obtain rfl := k68_open hK
  exact ⟨ad, e, hc 0 _ rfl, by rw [← add_field _ _ 1 (by omega)]; exact hc 1 _ rfl, by rw [← add_field _ _ 2 (by omega)]; exact hc 2 _ rfl⟩
def rd_L6 (xs : List (List S68)) (i : Int) : (List S68) := xs.getD i.toNat ([] : List S68)
theorem at_L6 {w : World} {A : Option Addr} {n : Nat} {xs : List (List S68)} (h : Kd.C (Kd.slice 68 k68) w A n xs) (i : Int) (h0 : 0 ≤ i) (h1 : i < n) : ∃ ad A0 c0, A = some ad ∧ w.cell? (ad.add i.toNat) = some (.slice A0 (rd_L6 xs i).length c0) ∧ (rd_L6 xs i).length ≤ c0 ∧ k68.C w A0 (rd_L6 xs i).length (rd_L6 xs i) := by
  obtain ⟨ad, c, e, _, hK, hc0⟩ := Kd.C_get h ([] : List S68) i h0 h1
  have hc : ∀ j u, c[j]? = some u → w.cell? (ad.add (i.toNat * 1 + j)) = some u := hc0
  obtain ⟨A0, c0, rfl, l0, g0⟩ := hK
  exact ⟨ad, A0, c0, e, by have hq := hc 0 _ rfl; rwa [Nat.mul_one, Nat.add_zero] at hq, l0, g0⟩
end Go.Proofs.YtjmhiklmlgbifaaGreatDoor.PMan
end
section
namespace Go.Proofs.YtjmhiklmlgbifaaGreatDoor.PMan
open Go.RowKit Go.Proofs.YtjmhiklmlgbifaaGreatDoorW.PrintWords Go.Proofs.YtjmhiklmlgbifaaGreatDoorW.PrintLast Go.Proofs.YtjmhiklmlgbifaaGreatDoorW.PrintMore
attribute [local go_sem] max2_int min2_int max_two min_two max_three min_three max_four min_four   -- for this text's walks alone
set_option linter.unusedVariables false
set_option linter.unusedSimpArgs false
def manifest_within.f (a0 : Int) (a1 : Int) (a2 : Int) : Option (Bool) := if a0 ≥ a1 then (some (decide (a0 ≤ a2))) else (some false)
set_option maxHeartbeats 8000000 in
set_option maxRecDepth 100000 in
theorem manifest_within.calls (a0 : Int) (a1 : Int) (a2 : Int) (r : Bool) (w : World) (h : manifest_within.f a0 a1 a2 = some r) :
    Calls Tryz.prog 44 #[.int .i64 a0, .int .i64 a1, .int .i64 a2] w fun e w' => e = .returned (.bool r) ∧ Drawn0 w w' := by
  have H : (if a0 ≥ a1 then (some (decide (a0 ≤ a2))) else (some false)) = some r := h
  clear h
  by_cases c4 : a0 ≥ a1
  · rw [if_pos c4] at H
    have c4b0 : decide (a1 ≤ a0) = true := decide_eq_true c4
    clear c4
    obtain rfl := Option.some.inj H
    go_enter Tryz.func44, Tryz.ntmps44
    go_wp2
    go_ret
    exact ⟨by first | rfl | (simp; done) | (simp [*]; done), by repeat (first | exact Drawn0.refl _ | apply Drawn0.step)⟩
  · rw [if_neg c4] at H
    have c4b0 : decide (a1 ≤ a0) = false := decide_eq_false c4
    clear c4
    obtain rfl := Option.some.inj H
    go_enter Tryz.func44, Tryz.ntmps44
    go_wp2
    go_ret
    exact ⟨by first | rfl | (simp; done) | (simp [*]; done), by repeat (first | exact Drawn0.refl _ | apply Drawn0.step)⟩
def num_PutVar.l0 : Nat → List Int → Int → Option (List Int)
  | 0, _, _ => none
  | k + 1, x0, x1 => if x1 ≥ 128 then (if x0.length < 140737488355328 then (num_PutVar.l0 k (x0 ++ [Go.bits .or .u8 ((x1) % 256) 128]) (x1 / 128)) else (none)) else (if x0.length < 140737488355328 then (some (x0 ++ [(x1) % 256])) else (none))
def num_PutVar.f (k : Nat) (l0 : List Int) (a1 : Int) : Option (List Int) := num_PutVar.l0 k l0 a1
set_option maxHeartbeats 8000000 in
set_option maxRecDepth 100000 in
theorem num_PutVar.calls (k : Nat) (P0_ : Nat → Prop) (u9000_ : Value) (l0 : List Int) (a1 : Int) (r : List Int) (w0 w : World) (hB : Below w0.heap.size w0 w) (ho0 : Kd.R (Kd.int .u8) 5 w w0.heap.size P0_ u9000_ l0) (h : num_PutVar.f k l0 a1 = some r) :
    Calls Tryz.prog 29 #[u9000_, .int .u64 a1] w fun e w' => ∃ v0_ : Value, e = .returned (v0_) ∧ Kd.R (Kd.int .u8) 5 w' w0.heap.size (fun k_ => (P0_ k_ ∨ w.heap.size ≤ k_)) v0_ r ∧ Below w0.heap.size w0 w' ∧ Kept w w' (fun k_ => P0_ k_) := by
  have HO0 := Aside0.mk (show Kd.R (Kd.int .u8) 5 w w0.heap.size (fun k_ => (P0_ k_ ∨ w.heap.size ≤ k_)) u9000_ l0 from Kd.R_mono ho0 (fun k_ hk => (.inl hk)))
  have HK := Aside0.mk (Kept.refl w (fun k_ => P0_ k_))
  have HW0 := Aside0.mk hB.size
  have HB := Aside0.mk hB
  clear hB
  have H : (num_PutVar.l0 k l0 a1) = some r := h
  clear h
  have H' := Aside0.mk H
  clear H
  go_enter Tryz.func29, Tryz.ntmps29
  go_wp2
  go_loopg [0, 1] k (fun kq v0 v1 w' => ∃ (x0_1 : List Int) (x1_1 : Int), v1 = .int .u64 x1_1 ∧ Aside0 (num_PutVar.l0 kq x0_1 x1_1 = some r) ∧ Aside0 (kq ≤ k) ∧ Aside0 (Kd.R (Kd.int .u8) 5 w' w0.heap.size (fun k_ => (P0_ k_ ∨ w.heap.size ≤ k_)) v0 x0_1) ∧ Aside0 (Kept w w' (fun k_ => P0_ k_)) ∧ Aside0 (Below w0.heap.size w0 w'))
  case atStart => exact ⟨(l0), (a1), (by first | rfl | (simp; done) | (simp [*]; done)), H', ⟨Nat.le_refl _⟩, ⟨by (with_reducible repeat (first | apply Kd.R_alloc | apply Kd.R_drewN | apply Kd.R_drew)); exact HO0.out⟩, ⟨by repeat (first | (with_reducible first | exact HK.out | apply Kept.alloc | apply Kept.drewN | apply Kept.drew) | exact HK.out)⟩, ⟨by repeat (first | (with_reducible first | exact HB.out | apply below_alloc | apply pw_below_drewN | apply below_drew1) | exact HB.out)⟩⟩
  case round =>
    clear H'
    try clear c2
    try clear p2
    obtain ⟨x0_1, x1_1, rfl, HA, HK1, HO_0, HK, HB⟩ := hrel
    cases gk with
    | zero => exact absurd HA.out (by simp [num_PutVar.l0])
    | succ k1 =>
      have H := HA.out
      clear HA
      simp only [num_PutVar.l0] at H
      by_cases c3 : x1_1 ≥ 128
      · rw [if_pos c3] at H
        have c3b0 : decide (128 ≤ x1_1) = true := decide_eq_true c3
        clear c3
        by_cases c4 : x0_1.length < 140737488355328
        · rw [if_pos c4] at H
          have LMc4 := Aside0.mk c4
          clear c4
          obtain ⟨y108, hy108⟩ : ∃ y_ : List Int, y_ = (x0_1 ++ [Go.bits .or .u8 ((x1_1) % 256) 128]) := ⟨_, rfl⟩
          replace H : (num_PutVar.l0 k1 y108 (x1_1 / 128)) = some r := by first | (rw [hy108]; with_reducible exact H) | (have H2_ := (Option.bind_some _ _).symm.trans H; rw [hy108]; with_reducible exact H2_) | (have H2_ := (Option.bind_some _ _).symm.trans H; with_reducible exact H2_) | with_reducible exact H | (rw [hy108]; exact H) | exact H
          have Ny108 := Aside0.mk hy108
          clear hy108
          have H' := Aside0.mk H
          clear H
          go_wp2_with (first | ((with_reducible refine gate_builtin (b := .append) (xs := #[.tmp 9, .tmp 13]) rfl ?_); at_builtin; refine Kd.R_append (Kd.int .u8) (w0 := w0) w0.heap.size rfl (.tmp 9) (.tmp 13) 30 5 (.int .u8 0) 1 rfl Tryz.underlying30 info5 rfl (by decide) (by omega) u0 x0_1 (Go.bits .or .u8 ((x1_1) % 256) 128) [.int .u8 (Go.bits .or .u8 ((x1_1) % 256) 128)] (fun k_ => (P0_ k_ ∨ w.heap.size ≤ k_)) (fun _ => False) rfl rfl ?aP (fun _ hk => hk.elim) ?aF ?aO ?aB ?aS ?aL ?_; (case aP => exact rfl); (case aB => exact (by repeat (first | (with_reducible first | exact HB.out | apply below_alloc | apply pw_below_drewN | apply below_drew1) | exact HB.out))); (case aF => exact (fun k_ hk => (.inr (Nat.le_trans (by first | exact HK.out.1 | exact (show Kept w _ (fun k_ => P0_ k_) from by repeat (first | (with_reducible first | exact HK.out | apply Kept.alloc | apply Kept.drewN | apply Kept.drew) | exact HK.out)).1) hk)))); (case aO => exact (by (with_reducible repeat (first | apply Kd.R_alloc | apply Kd.R_drewN | apply Kd.R_drew)); exact HO_0.out)); (case aS => exact (below_size (by repeat (first | (with_reducible first | exact HB.out | apply below_alloc | apply pw_below_drewN | apply below_drew1) | exact HB.out)))); (case aL => have := LMc4.out; omega); intro v109 w5 ho hb hg hat; rw [← Ny108.out] at ho; have n0_ := Aside0.mk (hb); have n1_ := Aside0.mk (Kept.of_grown (S := (fun k_ => P0_ k_)) hg (by repeat (first | (with_reducible first | exact HK.out | apply Kept.alloc | apply Kept.drewN | apply Kept.drew) | exact HK.out)) (fun k_ e_ => (HO_0.out.1 k_ e_))); have n2_ := Aside0.mk (ho); clear HB; clear HK; clear HO_0; have HB := n0_; have HK := n1_; have HO110 := n2_; clear n0_ n1_ n2_; clear ho hb hg hat))
          go_roundg k1
          case measure => have := HK1.out; omega
          case rel => exact ⟨(y108), (x1_1 / 128), (by first | rfl | (simp; done) | (simp [*]; done)), H', ⟨by have := HK1.out; omega⟩, ⟨by (with_reducible repeat (first | apply Kd.R_alloc | apply Kd.R_drewN | apply Kd.R_drew)); exact HO110.out⟩, ⟨by repeat (first | (with_reducible first | exact HK.out | apply Kept.alloc | apply Kept.drewN | apply Kept.drew) | exact HK.out)⟩, ⟨by repeat (first | (with_reducible first | exact HB.out | apply below_alloc | apply pw_below_drewN | apply below_drew1) | exact HB.out)⟩⟩
        · rw [if_neg c4] at H
          exact absurd H (by simp)
      · rw [if_neg c3] at H
        have c3b0 : decide (128 ≤ x1_1) = false := decide_eq_false c3
        clear c3
        by_cases c6 : x0_1.length < 140737488355328
        · rw [if_pos c6] at H
          have LMc6 := Aside0.mk c6
          clear c6
          obtain ⟨y111, hy111⟩ : ∃ y_ : List Int, y_ = (x0_1 ++ [(x1_1) % 256]) := ⟨_, rfl⟩
          replace H : (some y111) = some r := by first | (rw [hy111]; with_reducible exact H) | (have H2_ := (Option.bind_some _ _).symm.trans H; rw [hy111]; with_reducible exact H2_) | (have H2_ := (Option.bind_some _ _).symm.trans H; with_reducible exact H2_) | with_reducible exact H | (rw [hy111]; exact H) | exact H
          have Ny111 := Aside0.mk hy111
          clear hy111
          obtain rfl := Option.some.inj H
          go_wp2_with (first | ((with_reducible refine gate_builtin (b := .append) (xs := #[.tmp 15, .tmp 18]) rfl ?_); at_builtin; refine Kd.R_append (Kd.int .u8) (w0 := w0) w0.heap.size rfl (.tmp 15) (.tmp 18) 30 5 (.int .u8 0) 1 rfl Tryz.underlying30 info5 rfl (by decide) (by omega) u0 x0_1 ((x1_1) % 256) [.int .u8 ((x1_1) % 256)] (fun k_ => (P0_ k_ ∨ w.heap.size ≤ k_)) (fun _ => False) rfl rfl ?aP (fun _ hk => hk.elim) ?aF ?aO ?aB ?aS ?aL ?_; (case aP => exact rfl); (case aB => exact (by repeat (first | (with_reducible first | exact HB.out | apply below_alloc | apply pw_below_drewN | apply below_drew1) | exact HB.out))); (case aF => exact (fun k_ hk => (.inr (Nat.le_trans (by first | exact HK.out.1 | exact (show Kept w _ (fun k_ => P0_ k_) from by repeat (first | (with_reducible first | exact HK.out | apply Kept.alloc | apply Kept.drewN | apply Kept.drew) | exact HK.out)).1) hk)))); (case aO => exact (by (with_reducible repeat (first | apply Kd.R_alloc | apply Kd.R_drewN | apply Kd.R_drew)); exact HO_0.out)); (case aS => exact (below_size (by repeat (first | (with_reducible first | exact HB.out | apply below_alloc | apply pw_below_drewN | apply below_drew1) | exact HB.out)))); (case aL => have := LMc6.out; omega); intro v112 w7 ho hb hg hat; rw [← Ny111.out] at ho; have n0_ := Aside0.mk (hb); have n1_ := Aside0.mk (Kept.of_grown (S := (fun k_ => P0_ k_)) hg (by repeat (first | (with_reducible first | exact HK.out | apply Kept.alloc | apply Kept.drewN | apply Kept.drew) | exact HK.out)) (fun k_ e_ => (HO_0.out.1 k_ e_))); have n2_ := Aside0.mk (ho); clear HB; clear HK; clear HO_0; have HB := n0_; have HK := n1_; have HO113 := n2_; clear n0_ n1_ n2_; clear ho hb hg hat))
          go_ret
          exact ⟨_, by first | rfl | (simp [errW_none, errW_some] <;> rfl) | (simp [*, errW_none, errW_some] <;> rfl), by (with_reducible repeat (first | apply Kd.R_alloc | apply Kd.R_drewN | apply Kd.R_drew)); exact HO113.out, by repeat (first | (with_reducible first | exact HB.out | apply below_alloc | apply pw_below_drewN | apply below_drew1) | exact HB.out), by repeat (first | (with_reducible first | exact HK.out | apply Kept.alloc | apply Kept.drewN | apply Kept.drew) | exact HK.out)⟩
        · rw [if_neg c6] at H
          exact absurd H (by simp)
theorem clone_info : (Tryz.prog.info? 5).map (fun i => (i.zero, i.size, i.bytes)) = some (some (.int .u8 0), 1, 1) := by kernel_rfl
theorem slice_nil_in (A : Option Addr) (n c d : Nat) (W : World) : (Op.equalIn (d + 1) 30 (.slice A n c) (.slice none 0 0)).run Tryz.prog W = .ok A.isNone W := by
  cases A <;> simp [Op.equalIn, run_underlying Tryz.underlying30]
theorem slice_nil (A : Option Addr) (n c : Nat) (W : World) : (binOp .eql 30 (.slice A n c) (.slice none 0 0)).run Tryz.prog W = .ok (.bool A.isNone) W := by
  have h : (Op.equal 30 (.slice A n c) (.slice none 0 0)).run Tryz.prog W = .ok A.isNone W := slice_nil_in A n c 9999 W
  simp [binOp, h]
def bytes_Clone.f (l0 : List Int) : Option (List Int) := if l0.length < 140737488355328 then some l0 else none
set_option maxHeartbeats 800000 in
set_option maxRecDepth 100000 in
theorem bytes_Clone.calls (A0 : Option Addr) (c0 : Nat) (l0 : List Int) (r : List Int) (w : World) (hr0 : Kd.C (Kd.int .u8) w A0 l0.length l0) (hc0 : l0.length ≤ c0) (h : bytes_Clone.f l0 = some r) :
    Calls Tryz.prog 70 #[.slice A0 l0.length c0] w fun e w' => ∃ v0_ : Value, e = .returned v0_ ∧ Kd.R (Kd.int .u8) 5 w' w.heap.size (fun _ => True) v0_ r ∧ Below w.heap.size w w' := by
  unfold bytes_Clone.f at h
  by_cases hl : l0.length < 140737488355328
  · rw [if_pos hl] at h
    obtain rfl := Option.some.inj h
    have HL := Aside0.mk hl
    have HR0 := Aside0.mk hr0
    clear h hl hr0
    cases A0 with
    | none =>
      have hz : l0 = [] := by
        cases l0 with
        | nil => rfl
        | cons x l =>
          obtain ⟨ad, e, _⟩ := Kd.at_int HR0.out 0 (by omega) (by simp)
          cases e
      subst hz
      have hn := slice_nil none
      go_enter Tryz.func70, Tryz.ntmps70
      go_wp2
      go_ret
      exact ⟨_, rfl, Kd.R_nil _ _ _ _ _, Below.refl _ _⟩
    | some ad =>
      have HB := Aside0.mk (Below.refl w.heap.size w)
      have HC0 := Aside0.mk hc0
      clear hc0
      have hn := slice_nil (some ad)
      go_enter Tryz.func70, Tryz.ntmps70
      go_wp2_with (first | ((with_reducible refine gate_dst (N := 5) rfl ?_); refine Kd.R_lit (Kd.int .u8) _ 5 ?hg (N := 5) ?hd (xs := ([] : List Int)) (inner := []) (ok := fun _ => True) (okp := fun _ => True) ?hr ?hp (fun _ hk => hk) trivial (Below.refl _ _) (Nat.le_refl _) (by simp) ?_; (case hd => rfl); (case hg => rfl); (case hr => first | (go_simp; done) | (go_simp; rfl)); (case hp => exact (Reps.none _ _)); intro v5 w5 ho hb hg_ hnew_; clear hg_ hnew_; have HO := Aside0.mk (Kd.R_lower ho (below_size HB.out)); have HB1 := Aside0.mk (below_step HB.out hb); clear ho hb) | ((with_reducible refine gate_builtin (b := .append) (xs := #[.tmp 5, .tmp 6]) rfl ?_); at_builtin; refine Kd.R_append_rows (Kd.int .u8) (w0 := w) w.heap.size rfl (.tmp 5) (.tmp 6) 30 5 (.int .u8 0) 1 rfl Tryz.underlying30 clone_info rfl (by decide) (by omega) v5 [] l0 _ _ _ (fun _ => True) (fun _ => False) rfl rfl ?aO ?aR (fun _ _ h => h) (fun _ h => h.elim) ?aF ?aB ?aS ?aL ?_; (case aR => exact Kd.C_below HR0.out HB1.out); (case aB => exact HB1.out); (case aF => exact (fun _ _ => trivial)); (case aO => exact HO.out); (case aS => exact below_size HB1.out); (case aL => have := HL.out; simp only [List.length_nil]; omega); intro v7 w7 ho hb hg hat; rw [List.nil_append] at ho; have HB2 := Aside0.mk hb; have HO2 := Aside0.mk ho; clear ho hb hg hat))
      go_ret
      exact ⟨_, rfl, HO2.out, HB2.out⟩
  · rw [if_neg hl] at h
    cases h
end Go.Proofs.YtjmhiklmlgbifaaGreatDoor.PMan
end
section
namespace Go.Proofs.YtjmhiklmlgbifaaGreatDoor.PMan
open Go.RowKit Go.Proofs.YtjmhiklmlgbifaaGreatDoorW.PrintWords Go.Proofs.YtjmhiklmlgbifaaGreatDoorW.PrintLast Go.Proofs.YtjmhiklmlgbifaaGreatDoorW.PrintMore
set_option linter.unusedVariables false
set_option linter.unusedSimpArgs false
structure S70 where
  f0 : Int
  f1 : Bool
  f2 : S68
  f3 : S68
def z70 : S70 := ⟨(0 : Int), false, z68, z68⟩
def k70 : Kd S70 := Kd.iso (Kd.pair (Kd.int .i64) (Kd.pair Kd.bool (Kd.pair k68 k68))) (fun x : S70 => (x.f0, x.f1, x.f2, x.f3))
theorem k70_open {w : World} {x : S70} {cs : List Value} (h : k70.K w x cs) : cs = [.int .i64 x.f0, .bool x.f1, .int .i64 x.f2.f0, .int .i64 x.f2.f1, .string x.f2.f2, .int .i64 x.f3.f0, .int .i64 x.f3.f1, .string x.f3.f2] := by
  obtain ⟨_, _, rfl, rfl, ⟨_, _, rfl, rfl, ⟨_, _, rfl, s2, s5⟩⟩⟩ := h
  obtain rfl := k68_open s2
  obtain rfl := k68_open s5
  exact rfl
theorem k70_mkM (w : World) (base : Nat) (ok : Nat → Prop) (x : S70)  : k70.M w base ok x [.int .i64 x.f0, .bool x.f1, .int .i64 x.f2.f0, .int .i64 x.f2.f1, .string x.f2.f2, .int .i64 x.f3.f0, .int .i64 x.f3.f1, .string x.f3.f2] := ⟨[.int .i64 x.f0], [.bool x.f1, .int .i64 x.f2.f0, .int .i64 x.f2.f1, .string x.f2.f2, .int .i64 x.f3.f0, .int .i64 x.f3.f1, .string x.f3.f2], rfl, rfl, ⟨[.bool x.f1], [.int .i64 x.f2.f0, .int .i64 x.f2.f1, .string x.f2.f2, .int .i64 x.f3.f0, .int .i64 x.f3.f1, .string x.f3.f2], rfl, rfl, ⟨[.int .i64 x.f2.f0, .int .i64 x.f2.f1, .string x.f2.f2], [.int .i64 x.f3.f0, .int .i64 x.f3.f1, .string x.f3.f2], rfl, (k68_mkM w base ok x.f2 ), (k68_mkM w base ok x.f3 )⟩⟩⟩
/-- A digest: its 32 bytes. -/
def hashCells (x : List Int) : List Value := x.map (Value.int .u8)
def kH : Kd (List Int) where
  sz := 32
  E := []
  K _ x cs := cs = hashCells x ∧ x.length = 32
  M _ _ _ x cs := cs = hashCells x ∧ x.length = 32
  K_len h := by rw [h.1]; unfold hashCells; rw [List.length_map, h.2]
  K_one h u hu := by
    obtain ⟨rfl, _⟩ := h
    obtain ⟨n, _, rfl⟩ := List.mem_map.1 hu
    rfl
  K_below _ h := h
  K_of_M h := h
  M_mono _ h := h
  M_bound h := h
  M_move _ h := h
  M_lower _ h := h
/-- A column's head. -/
structure CH where
  z : S70
  h : List Int
def kCH : Kd CH := Kd.iso (Kd.pair k70 kH) (fun x : CH => (x.z, x.h))
def zCells (z : S70) : List Value := [.int .i64 z.f0, .bool z.f1, .int .i64 z.f2.f0, .int .i64 z.f2.f1, .string z.f2.f2, .int .i64 z.f3.f0, .int .i64 z.f3.f1, .string z.f3.f2]
theorem kCH_open {w : World} {x : CH} {cs : List Value} (h : kCH.K w x cs) : cs = zCells x.z ++ hashCells x.h ∧ x.h.length = 32 := by
  obtain ⟨_, _, rfl, s0, s8⟩ := h
  obtain rfl := k70_open s0
  obtain ⟨rfl, hl⟩ := s8
  exact ⟨rfl, hl⟩
theorem kCH_sz : kCH.sz = 40 := rfl
/-- A header. -/
structure Hd where
  rows : Int
  live : Int
  dead : List Int
  cols : List CH
def kHd : Kd Hd := Kd.iso (Kd.pair (Kd.int .i64) (Kd.pair (Kd.int .i64) (Kd.pair kH (Kd.slice 72 kCH)))) (fun x : Hd => (x.rows, x.live, x.dead, x.cols))
def hdCells (x : Hd) (A : Option Addr) (c : Nat) : List Value := .int .i64 x.rows :: .int .i64 x.live :: (hashCells x.dead ++ [.slice A x.cols.length c])
theorem kHd_open {w : World} {x : Hd} {cs : List Value} (h : kHd.K w x cs) : ∃ A c, cs = hdCells x A c ∧ x.dead.length = 32 ∧ x.cols.length ≤ c ∧ kCH.C w A x.cols.length x.cols := by
  obtain ⟨_, _, rfl, rfl, ⟨_, _, rfl, rfl, ⟨_, _, rfl, ⟨rfl, hl⟩, ⟨A, c, rfl, h1, h2⟩⟩⟩⟩ := h
  exact ⟨A, c, rfl, hl, h1, h2⟩
/-- A group of a manifest. -/
structure Rf where
  id : Int
  hd : Hd
  dead : List Int
def kRf : Kd Rf := Kd.iso (Kd.pair (Kd.int .i64) (Kd.pair kHd (Kd.slice 5 (Kd.int .u8)))) (fun x : Rf => (x.id, x.hd, x.dead))
def rfCells (x : Rf) (A : Option Addr) (c : Nat) (B : Option Addr) (d : Nat) : List Value := .int .i64 x.id :: (hdCells x.hd A c ++ [.slice B x.dead.length d])
theorem kRf_open {w : World} {x : Rf} {cs : List Value} (h : kRf.K w x cs) : ∃ A c B d, cs = rfCells x A c B d ∧ x.hd.dead.length = 32 ∧ x.hd.cols.length ≤ c ∧ kCH.C w A x.hd.cols.length x.hd.cols ∧ x.dead.length ≤ d ∧ (Kd.int .u8).C w B x.dead.length x.dead := by
  obtain ⟨_, _, rfl, rfl, ⟨_, _, rfl, h0, ⟨B, d, rfl, h3, h4⟩⟩⟩ := h
  obtain ⟨A, c, rfl, hl, h1, h2⟩ := kHd_open h0
  exact ⟨A, c, B, d, rfl, hl, h1, h2, h3, h4⟩
theorem kRf_sz : kRf.sz = 37 := rfl
/-- An entry. -/
structure En where
  s : List Int
  g : Int
  r : List Int
def kEn : Kd En := Kd.iso (Kd.pair kH (Kd.pair (Kd.int .i64) kH)) (fun x : En => (x.s, x.g, x.r))
def enCells (x : En) : List Value := hashCells x.s ++ .int .i64 x.g :: hashCells x.r
theorem kEn_open {w : World} {x : En} {cs : List Value} (h : kEn.K w x cs) : cs = enCells x ∧ x.s.length = 32 ∧ x.r.length = 32 := by
  obtain ⟨_, _, rfl, ⟨rfl, h1⟩, ⟨_, _, rfl, rfl, ⟨rfl, h2⟩⟩⟩ := h
  exact ⟨rfl, h1, h2⟩
theorem kEn_sz : kEn.sz = 65 := rfl
/-- A manifest. -/
structure Mn where
  gen : Int
  next : Int
  schema : List S123
  most : Int
  groups : List Rf
  loose : List (List S68)
  entries : List En
def cmpI (a b : Int) : Int := if a < b then -1 else if b < a then 1 else 0
def cmpS (a b : ByteArray) : Int := if Op.bytesLess a.toList b.toList = true then -1 else if (Op.bytesLess a.toList b.toList || a.toList == b.toList) = true then 0 else 1
def cmpP (a b : S68) : Int :=
  if (a.f0 != b.f0) = true then cmpI a.f0 b.f0 else if (a.f0 == 1) = true then cmpI a.f1 b.f1 else if (a.f0 == 2) = true then cmpS a.f2 b.f2 else 0
theorem below_call {w W w1 : World} (h0 : Below w.heap.size w W) (hb : Below W.heap.size W w1) : Below w.heap.size w w1 := h0.trans (hb.mono h0.size)
def zeroV (v : S68) : Bool := v.f0 == 0 && (v.f1 == 0 && (v.f2.toList == ([] : List UInt8)))
def standsP (c : S123) (v : S68) : Bool :=
  if zeroV v = true then c.f1 else
  if (v.f0 == 1 && (v.f2.toList == ([] : List UInt8))) = true then c.f0 == 1 else
  if (v.f0 == 2 && (v.f1 == 0)) = true then c.f0 == 2 else false
def rowL : List S123 → List S68 → Int
  | c :: s, v :: r => if standsP c v = true then (if (v.f2.size : Int) > 65536 then 12 else rowL s r) else 11
  | _, _ => 0
def rowP (s : List S123) (r : List S68) : Int := if (r.length : Int) = (s.length : Int) then rowL s r else 1
def rightP (kind : Int) (v : S68) : Bool := v.f0 == kind && rowP [⟨kind, false, 0⟩] [v] == 0
def zoneP (z : S70) (rows kind : Int) : Bool :=
  if z.f0 < 0 then false else if z.f0 > rows then false else
  if (z.f1 != decide (z.f0 < rows)) = true then false else
  if z.f1 = true then (kind == 1 || kind == 2) && (rightP kind z.f2 && (rightP kind z.f3 && decide (cmpP z.f2 z.f3 ≤ 0)))
  else zeroV z.f2 && zeroV z.f3
def colsP (rows : Int) : List CH → List S123 → Bool
  | c :: l, s :: r => if zoneP c.z rows s.f0 = true then (if c.z.f0 > 0 then (if s.f1 = true then colsP rows l r else false) else colsP rows l r) else false
  | _, _ => true
def soundP (h : Hd) (s : List S123) : Bool :=
  if h.rows < 1 then false else if h.rows > 65536 then false else if h.live < 0 then false else if h.live > h.rows then false else
  if (h.cols.length : Int) = (s.length : Int) then colsP h.rows h.cols s else false
def groupsL (next most : Int) (s : List S123) : List Rf → Int
  | [] => 0
  | g :: l => if 0 ≤ g.id ∧ g.id ≤ next - 1 then (if soundP g.hd s = true ∧ g.hd.rows ≤ most ∧ (g.dead.length : Int) ≤ 65536 then groupsL next most s l else 4) else 5
def groupsP (m : Mn) : Int := if (m.groups.length : Int) > 1048576 then 12 else groupsL m.next m.most m.schema m.groups
end Go.Proofs.YtjmhiklmlgbifaaGreatDoor.PMan
end
section
namespace Go.Proofs.YtjmhiklmlgbifaaGreatDoor.PMan
open Go.RowKit Go.Proofs.YtjmhiklmlgbifaaGreatDoorW.PrintWords Go.Proofs.YtjmhiklmlgbifaaGreatDoorW.PrintLast Go.Proofs.YtjmhiklmlgbifaaGreatDoorW.PrintMore
set_option linter.unusedVariables false
set_option linter.unusedSimpArgs false
set_option maxHeartbeats 1600000 in
set_option maxRecDepth 100000 in
theorem cmpInt_calls (a b : Int) (w : World) : Calls Tryz.prog 143 #[.int .i64 a, .int .i64 b] w fun e w' => e = .returned (.int .i64 (cmpI a b)) ∧ Below w.heap.size w w' := by
  unfold cmpI
  go_enter Tryz.func143, Tryz.ntmps143
  go_wp2
  all_goals go_ret
  all_goals exact ⟨rfl, Below.refl _ _⟩
set_option maxHeartbeats 1600000 in
set_option maxRecDepth 100000 in
theorem cmpInt64_calls (a b : Int) (w : World) : Calls Tryz.prog 144 #[.int .i64 a, .int .i64 b] w fun e w' => e = .returned (.int .i64 (cmpI a b)) ∧ Below w.heap.size w w' := by
  unfold cmpI
  go_enter Tryz.func144, Tryz.ntmps144
  go_wp2
  all_goals go_ret
  all_goals exact ⟨rfl, Below.refl _ _⟩
set_option maxHeartbeats 1600000 in
set_option maxRecDepth 100000 in
theorem nanStr_calls (a : ByteArray) (w : World) : Calls Tryz.prog 155 #[.string a] w fun e w' => e = .returned (.bool false) ∧ w' = w := by
  go_enter Tryz.func155, Tryz.ntmps155
  go_wp2
  go_ret
  exact ⟨by simp, rfl⟩
set_option maxHeartbeats 1600000 in
set_option maxRecDepth 100000 in
theorem cmpStr_calls (a b : ByteArray) (w : World) : Calls Tryz.prog 145 #[.string a, .string b] w fun e w' => e = .returned (.int .i64 (cmpS a b)) ∧ Below w.heap.size w w' := by
  go_enter Tryz.func145, Tryz.ntmps145
  go_wp2_with (go_at_call 155; refine (nanStr_calls _ _).mono ?_; rintro e w1 ⟨rfl, rfl⟩)
  all_goals go_ret
  all_goals (refine ⟨?_, Below.refl _ _⟩; unfold cmpS; simp_all)
set_option maxHeartbeats 1600000 in
set_option maxRecDepth 100000 in
theorem cmp_calls (a b : S68) (w : World) : Calls Tryz.prog 132 #[.agg #[.int .i64 a.f0, .int .i64 a.f1, .string a.f2], .agg #[.int .i64 b.f0, .int .i64 b.f1, .string b.f2]] w fun e w' => e = .returned (.int .i64 (cmpP a b)) ∧ Below w.heap.size w w' := by
  go_enter Tryz.func132, Tryz.ntmps132
  go_wp2_with (first | (go_at_call 143; refine (cmpInt_calls _ _ _).mono ?_; rintro e w1 ⟨rfl, hb⟩) | (go_at_call 144; refine (cmpInt64_calls _ _ _).mono ?_; rintro e w1 ⟨rfl, hb⟩) | (go_at_call 145; refine (cmpStr_calls _ _ _).mono ?_; rintro e w1 ⟨rfl, hb⟩))
  all_goals go_ret
  all_goals (refine ⟨by unfold cmpP; simp_all, ?_⟩; first | exact below_call (below_alloc (below_alloc (Below.refl _ _) _) _) (by assumption) | exact below_alloc (below_alloc (Below.refl _ _) _) _)
set_option maxHeartbeats 1600000 in
set_option maxRecDepth 100000 in
theorem stands_calls (c : S123) (v : S68) (w : World) : Calls Tryz.prog 80 #[.agg #[.int .i64 c.f0, .bool c.f1, .int .i64 c.f2], .agg #[.int .i64 v.f0, .int .i64 v.f1, .string v.f2]] w fun e w' => e = .returned (.bool (standsP c v)) ∧ Below w.heap.size w w' := by
  go_enter Tryz.func80, Tryz.ntmps80
  go_wp2
  all_goals go_ret
  all_goals (refine ⟨?_, below_alloc (below_alloc (Below.refl _ _) _) _⟩; unfold standsP zeroV; first | rfl | (simp_all; done))
end Go.Proofs.YtjmhiklmlgbifaaGreatDoor.PMan
end

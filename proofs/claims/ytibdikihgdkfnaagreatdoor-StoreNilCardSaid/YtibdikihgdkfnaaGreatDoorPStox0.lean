-- Printed for this claim by a program of this session's own (it runs the kit's print another way): Lean checks it.
import Derived.Test.YtibdikihgdkfnaaGreatDoorProg
import Derived.Below
import Derived.Deep.Draws
import Derived.Deep.AppendLies
import Derived.Maps.AppendAt
import Derived.OwnWalk
import Derived.Laws.BytesArg
import Derived.Laws.MakeOwn
import Derived.Laws.OwnMore
import Derived.Deep.OwnRows
import Derived.Tactics
import Derived.Lib.ConvBytes
import Derived.Laws.Slices
import Derived.WalkKit
import Derived.KernelRfl
import Derived.RowKit3
import Derived.Deep.LoopGhost
import Derived.Deep.QuietTactic
import Derived.BigQuiet
import Derived.WideLaws
import Derived.Deep.DeepCutAuto
import Derived.Deep.CutBlock
import Derived.Deep.RegionHeld3
import Derived.Laws.Rows
import Derived.Lib.AppendStr
import Derived.ArgAppend
import Derived.Laws.IdiomCopy
import Derived.OrdersHeld
import Derived.Laws.BitsLemmas
import Derived.RowKit
import Derived.Deep.WholeRow
import Derived.Lib.SlBytesConst
import Derived.StillTailTactics
import Derived.Stop.Asserts
import Derived.LaidEql
import Derived.RowKitTokens
import Derived.Handy
import Derived.RegionTactic
import Derived.Lib.IfaceEq
import Derived.Laws.Rows
import Derived.Deep.MidRow
import Derived.Test.YtibdikihgdkfnaaGreatDoorWWords
import Derived.Test.YtibdikihgdkfnaaGreatDoorWLast
import Derived.Test.YtibdikihgdkfnaaGreatDoorWTab
import Derived.Test.YtibdikihgdkfnaaGreatDoorWFour
import Derived.Test.YtibdikihgdkfnaaGreatDoorWQPut
import Derived.Test.YtibdikihgdkfnaaGreatDoorWApart
import Derived.Test.YtibdikihgdkfnaaGreatDoorWArr
import Derived.Test.YtibdikihgdkfnaaGreatDoorWZeros
import Derived.Test.YtibdikihgdkfnaaGreatDoorWFoot
import Derived.Test.YtibdikihgdkfnaaGreatDoorWKept
import Derived.Test.YtibdikihgdkfnaaGreatDoorWShare
import Derived.Test.YtibdikihgdkfnaaGreatDoorWN
import Derived.Test.YtibdikihgdkfnaaGreatDoorWFootNe
import Derived.Test.YtibdikihgdkfnaaGreatDoorWAt
import Derived.Test.YtibdikihgdkfnaaGreatDoorWEqStruct
import Derived.Test.YtibdikihgdkfnaaGreatDoorWRepsOne
import Derived.Test.YtibdikihgdkfnaaGreatDoorWInv
import Derived.Test.YtibdikihgdkfnaaGreatDoorWInvWords
import Derived.Test.YtibdikihgdkfnaaGreatDoorWGuard
import Derived.Test.YtibdikihgdkfnaaGreatDoorWNEv
import Derived.Test.YtibdikihgdkfnaaGreatDoorWMore
namespace Go.Proofs.YtibdikihgdkfnaaGreatDoor.PSto
open Go.RowKit Go.Proofs.YtibdikihgdkfnaaGreatDoorW.PrintWords Go.Proofs.YtibdikihgdkfnaaGreatDoorW.PrintLast Go.Proofs.YtibdikihgdkfnaaGreatDoorW.PrintMore
attribute [local go_sem] max2_int min2_int max_two min_two max_three min_three max_four min_four   -- for this text's walks alone
set_option linter.unusedVariables false
set_option linter.unusedSimpArgs false



def errW : Option Int → Value
  | none => .nilIface
  | some c => .iface 31 (.int .i64 c)
theorem errW_none : errW none = .nilIface := rfl
theorem errW_some (c : Int) : errW (some c) = .iface 31 (.int .i64 c) := rfl

theorem info2 : (Tryz.prog.info? 2).map (fun i => (i.zero, i.size, i.bytes)) = some (some (.int .i64 0), 1, 8) := by kernel_rfl
theorem info5 : (Tryz.prog.info? 5).map (fun i => (i.zero, i.size, i.bytes)) = some (some (.int .u8 0), 1, 1) := by kernel_rfl
theorem info24 : (Tryz.prog.info? 24).map (fun i => (i.zero, i.size, i.bytes)) = some (some (.slice none 0 0), 1, 24) := by kernel_rfl
theorem info29 : (Tryz.prog.info? 29).map (fun i => (i.zero, i.size, i.bytes)) = some (some (.agg #[(.int .i64 0), (.slice none 0 0), (.int .i64 0), (.slice none 0 0), (.int .i64 0), (.int .i64 0), (.slice none 0 0), (.slice none 0 0), (.int .i64 0), (.int .i64 0)]), 10, 144) := by kernel_rfl
theorem info49 : (Tryz.prog.info? 49).map (fun i => (i.zero, i.size, i.bytes)) = some (some (.slice none 0 0), 1, 24) := by kernel_rfl
theorem info123 : (Tryz.prog.info? 123).map (fun i => (i.zero, i.size, i.bytes)) = some (some (.agg #[(.int .i64 0), (.bool false), (.int .i64 0)]), 3, 24) := by kernel_rfl
theorem info146 : (Tryz.prog.info? 146).map (fun i => (i.zero, i.size, i.bytes)) = some (some (.agg #[(.int .i64 0), (.int .i64 0), (.string ⟨#[]⟩)]), 3, 32) := by kernel_rfl
-- the values' own types
/-! #### struct type 146 -/
structure S146 where
  f0 : Int
  f1 : Int
  f2 : ByteArray
def z146 : S146 := ⟨(0 : Int), (0 : Int), (⟨#[]⟩ : ByteArray)⟩
def k146 : Kd S146 := Kd.iso (Kd.pair (Kd.int .i64) (Kd.pair (Kd.int .i64) Kd.string)) (fun x : S146 => (x.f0, x.f1, x.f2))
theorem k146_open {w : World} {x : S146} {cs : List Value} (h : k146.K w x cs) : cs = [.int .i64 x.f0, .int .i64 x.f1, .string x.f2] := by
  obtain ⟨_, _, rfl, rfl, ⟨_, _, rfl, rfl, rfl⟩⟩ := h
  exact rfl
theorem k146_openM {w : World} {base : Nat} {ok : Nat → Prop} {x : S146} {cs : List Value} (h : k146.M w base ok x cs) : cs = [.int .i64 x.f0, .int .i64 x.f1, .string x.f2] := by
  obtain ⟨_, _, rfl, rfl, ⟨_, _, rfl, rfl, rfl⟩⟩ := h
  exact rfl
theorem k146_mk (w : World) (x : S146)  : k146.K w x [.int .i64 x.f0, .int .i64 x.f1, .string x.f2] := ⟨[.int .i64 x.f0], [.int .i64 x.f1, .string x.f2], rfl, rfl, ⟨[.int .i64 x.f1], [.string x.f2], rfl, rfl, rfl⟩⟩
theorem k146_mkM (w : World) (base : Nat) (ok : Nat → Prop) (x : S146)  : k146.M w base ok x [.int .i64 x.f0, .int .i64 x.f1, .string x.f2] := ⟨[.int .i64 x.f0], [.int .i64 x.f1, .string x.f2], rfl, rfl, ⟨[.int .i64 x.f1], [.string x.f2], rfl, rfl, rfl⟩⟩
theorem k146_mkF (W : World) (ok : Nat → Prop) (x : S146) : Kd.FK k146 W ok x [.int .i64 x.f0, .int .i64 x.f1, .string x.f2] := fun W2 _ => k146_mk W2 x
def rd_T146 (xs : List S146) (i : Int) : S146 := xs.getD i.toNat z146
theorem at_T146 {w : World} {A : Option Addr} {n : Nat} {xs : List S146} (h : Kd.C k146 w A n xs) (i : Int) (h0 : 0 ≤ i) (h1 : i < n) : ∃ ad , A = some ad ∧ w.cell? (ad.add (i.toNat * 3)) = some (.int .i64 (rd_T146 xs i).f0) ∧ w.cell? ⟨(ad.add (i.toNat * 3)).block, (ad.add (i.toNat * 3)).off + 1, none⟩ = some (.int .i64 (rd_T146 xs i).f1) ∧ w.cell? ⟨(ad.add (i.toNat * 3)).block, (ad.add (i.toNat * 3)).off + 2, none⟩ = some (.string (rd_T146 xs i).f2) := by
  obtain ⟨ad, c, e, _, hK, hc0⟩ := Kd.C_get h z146 i h0 h1
  have hc : ∀ j u, c[j]? = some u → w.cell? (ad.add (i.toNat * 3 + j)) = some u := hc0
  obtain rfl := k146_open hK
  exact ⟨ad, e, hc 0 _ rfl, by rw [← add_field _ _ 1 (by omega)]; exact hc 1 _ rfl, by rw [← add_field _ _ 2 (by omega)]; exact hc 2 _ rfl⟩

def rd_L3 (xs : List (List S146)) (i : Int) : (List S146) := xs.getD i.toNat ([] : List S146)
theorem at_L3 {w : World} {A : Option Addr} {n : Nat} {xs : List (List S146)} (h : Kd.C (Kd.slice 146 k146) w A n xs) (i : Int) (h0 : 0 ≤ i) (h1 : i < n) : ∃ ad A0 c0, A = some ad ∧ w.cell? (ad.add i.toNat) = some (.slice A0 (rd_L3 xs i).length c0) ∧ (rd_L3 xs i).length ≤ c0 ∧ k146.C w A0 (rd_L3 xs i).length (rd_L3 xs i) := by
  obtain ⟨ad, c, e, _, hK, hc0⟩ := Kd.C_get h ([] : List S146) i h0 h1
  have hc : ∀ j u, c[j]? = some u → w.cell? (ad.add (i.toNat * 1 + j)) = some u := hc0
  obtain ⟨A0, c0, rfl, l0, g0⟩ := hK
  exact ⟨ad, A0, c0, e, by have hq := hc 0 _ rfl; rwa [Nat.mul_one, Nat.add_zero] at hq, l0, g0⟩

/-! #### struct type 123 -/
structure S123 where
  f0 : Int
  f1 : Bool
  f2 : Int
def z123 : S123 := ⟨(0 : Int), false, (0 : Int)⟩
def k123 : Kd S123 := Kd.iso (Kd.pair (Kd.int .i64) (Kd.pair Kd.bool (Kd.int .i64))) (fun x : S123 => (x.f0, x.f1, x.f2))
theorem k123_open {w : World} {x : S123} {cs : List Value} (h : k123.K w x cs) : cs = [.int .i64 x.f0, .bool x.f1, .int .i64 x.f2] := by
  obtain ⟨_, _, rfl, rfl, ⟨_, _, rfl, rfl, rfl⟩⟩ := h
  exact rfl
theorem k123_openM {w : World} {base : Nat} {ok : Nat → Prop} {x : S123} {cs : List Value} (h : k123.M w base ok x cs) : cs = [.int .i64 x.f0, .bool x.f1, .int .i64 x.f2] := by
  obtain ⟨_, _, rfl, rfl, ⟨_, _, rfl, rfl, rfl⟩⟩ := h
  exact rfl
theorem k123_mk (w : World) (x : S123)  : k123.K w x [.int .i64 x.f0, .bool x.f1, .int .i64 x.f2] := ⟨[.int .i64 x.f0], [.bool x.f1, .int .i64 x.f2], rfl, rfl, ⟨[.bool x.f1], [.int .i64 x.f2], rfl, rfl, rfl⟩⟩
theorem k123_mkM (w : World) (base : Nat) (ok : Nat → Prop) (x : S123)  : k123.M w base ok x [.int .i64 x.f0, .bool x.f1, .int .i64 x.f2] := ⟨[.int .i64 x.f0], [.bool x.f1, .int .i64 x.f2], rfl, rfl, ⟨[.bool x.f1], [.int .i64 x.f2], rfl, rfl, rfl⟩⟩
theorem k123_mkF (W : World) (ok : Nat → Prop) (x : S123) : Kd.FK k123 W ok x [.int .i64 x.f0, .bool x.f1, .int .i64 x.f2] := fun W2 _ => k123_mk W2 x
def rd_T123 (xs : List S123) (i : Int) : S123 := xs.getD i.toNat z123
theorem at_T123 {w : World} {A : Option Addr} {n : Nat} {xs : List S123} (h : Kd.C k123 w A n xs) (i : Int) (h0 : 0 ≤ i) (h1 : i < n) : ∃ ad , A = some ad ∧ w.cell? (ad.add (i.toNat * 3)) = some (.int .i64 (rd_T123 xs i).f0) ∧ w.cell? ⟨(ad.add (i.toNat * 3)).block, (ad.add (i.toNat * 3)).off + 1, none⟩ = some (.bool (rd_T123 xs i).f1) ∧ w.cell? ⟨(ad.add (i.toNat * 3)).block, (ad.add (i.toNat * 3)).off + 2, none⟩ = some (.int .i64 (rd_T123 xs i).f2) := by
  obtain ⟨ad, c, e, _, hK, hc0⟩ := Kd.C_get h z123 i h0 h1
  have hc : ∀ j u, c[j]? = some u → w.cell? (ad.add (i.toNat * 3 + j)) = some u := hc0
  obtain rfl := k123_open hK
  exact ⟨ad, e, hc 0 _ rfl, by rw [← add_field _ _ 1 (by omega)]; exact hc 1 _ rfl, by rw [← add_field _ _ 2 (by omega)]; exact hc 2 _ rfl⟩

def rd_L7 (xs : List (List Int)) (i : Int) : (List Int) := xs.getD i.toNat ([] : List Int)
theorem at_L7 {w : World} {A : Option Addr} {n : Nat} {xs : List (List Int)} (h : Kd.C (Kd.slice 5 (Kd.int .u8)) w A n xs) (i : Int) (h0 : 0 ≤ i) (h1 : i < n) : ∃ ad A0 c0, A = some ad ∧ w.cell? (ad.add i.toNat) = some (.slice A0 (rd_L7 xs i).length c0) ∧ (rd_L7 xs i).length ≤ c0 ∧ (Kd.int .u8).C w A0 (rd_L7 xs i).length (rd_L7 xs i) := by
  obtain ⟨ad, c, e, _, hK, hc0⟩ := Kd.C_get h ([] : List Int) i h0 h1
  have hc : ∀ j u, c[j]? = some u → w.cell? (ad.add (i.toNat * 1 + j)) = some u := hc0
  obtain ⟨A0, c0, rfl, l0, g0⟩ := hK
  exact ⟨ad, A0, c0, e, by have hq := hc 0 _ rfl; rwa [Nat.mul_one, Nat.add_zero] at hq, l0, g0⟩

def rd_L9 (xs : List (List S123)) (i : Int) : (List S123) := xs.getD i.toNat ([] : List S123)
theorem at_L9 {w : World} {A : Option Addr} {n : Nat} {xs : List (List S123)} (h : Kd.C (Kd.slice 123 k123) w A n xs) (i : Int) (h0 : 0 ≤ i) (h1 : i < n) : ∃ ad A0 c0, A = some ad ∧ w.cell? (ad.add i.toNat) = some (.slice A0 (rd_L9 xs i).length c0) ∧ (rd_L9 xs i).length ≤ c0 ∧ k123.C w A0 (rd_L9 xs i).length (rd_L9 xs i) := by
  obtain ⟨ad, c, e, _, hK, hc0⟩ := Kd.C_get h ([] : List S123) i h0 h1
  have hc : ∀ j u, c[j]? = some u → w.cell? (ad.add (i.toNat * 1 + j)) = some u := hc0
  obtain ⟨A0, c0, rfl, l0, g0⟩ := hK
  exact ⟨ad, A0, c0, e, by have hq := hc 0 _ rfl; rwa [Nat.mul_one, Nat.add_zero] at hq, l0, g0⟩

def rd_L10 (xs : List (List (List S146))) (i : Int) : (List (List S146)) := xs.getD i.toNat ([] : List (List S146))
theorem at_L10 {w : World} {A : Option Addr} {n : Nat} {xs : List (List (List S146))} (h : Kd.C (Kd.slice 24 (Kd.slice 146 k146)) w A n xs) (i : Int) (h0 : 0 ≤ i) (h1 : i < n) : ∃ ad A0 c0, A = some ad ∧ w.cell? (ad.add i.toNat) = some (.slice A0 (rd_L10 xs i).length c0) ∧ (rd_L10 xs i).length ≤ c0 ∧ (Kd.slice 146 k146).C w A0 (rd_L10 xs i).length (rd_L10 xs i) := by
  obtain ⟨ad, c, e, _, hK, hc0⟩ := Kd.C_get h ([] : List (List S146)) i h0 h1
  have hc : ∀ j u, c[j]? = some u → w.cell? (ad.add (i.toNat * 1 + j)) = some u := hc0
  obtain ⟨A0, c0, rfl, l0, g0⟩ := hK
  exact ⟨ad, A0, c0, e, by have hq := hc 0 _ rfl; rwa [Nat.mul_one, Nat.add_zero] at hq, l0, g0⟩

/-! #### struct type 27, nested in itself -/
structure S27 where
  f0 : Int
  f1 : Int
  f2 : (List S146)
  f3 : (List S27)
def z27 : S27 := ⟨(0 : Int), (0 : Int), ([] : List S146), ([] : List S27)⟩
def F27 (d : Kd S27) : Kd S27 := Kd.iso (Kd.pair (Kd.int .i64) (Kd.pair (Kd.int .i64) (Kd.pair (Kd.slice 146 k146) (Kd.slice 27 d)))) (fun x : S27 => (x.f0, x.f1, x.f2, x.f3))
theorem mono27 : Kd.Mono F27 := Kd.mono_iso _ (Kd.mono_pair (Kd.mono_const _) (Kd.mono_pair (Kd.mono_const _) (Kd.mono_pair (Kd.mono_const _) (Kd.mono_slice 27 Kd.mono_id))))
theorem sub27 : Kd.Sub F27 [27, 146] := Kd.sub_iso _ (Kd.sub_pair (Kd.sub_const _ (by decide)) (Kd.sub_pair (Kd.sub_const _ (by decide)) (Kd.sub_pair (Kd.sub_const _ (by decide)) (Kd.sub_slice 27 (by decide) Kd.sub_id))))
theorem sz27 : ∀ n, (Kd.upto F27 4 [27, 146] n).sz = 4 := Kd.upto_sz (fun _ => rfl)
def k27 : Kd S27 := Kd.fix F27 4 [27, 146] sz27 (Kd.upto_E sub27)
theorem k27_open {w : World} {x : S27} {cs : List Value} (h : k27.K w x cs) : ∃ A2 c2 A3 c3, cs = [.int .i64 x.f0, .int .i64 x.f1, .slice A2 x.f2.length c2, .slice A3 x.f3.length c3] ∧ x.f2.length ≤ c2 ∧ k146.C w A2 x.f2.length x.f2 ∧ x.f3.length ≤ c3 ∧ k27.C w A3 x.f3.length x.f3 := by
  obtain ⟨n, h⟩ := h
  cases n with
  | zero => exact h.elim
  | succ n =>
    obtain ⟨_, _, rfl, rfl, ⟨_, _, rfl, rfl, ⟨_, _, rfl, ⟨A2, c2, rfl, l2, g2⟩, ⟨A3, c3, rfl, l3, g3⟩⟩⟩⟩ := h
    exact ⟨A2, c2, A3, c3, rfl, l2, g2, l3, Kd.fix_C g3⟩
theorem k27_openM {w : World} {base : Nat} {ok : Nat → Prop} {x : S27} {cs : List Value} (h : k27.M w base ok x cs) : ∃ v2 v3, cs = [.int .i64 x.f0, .int .i64 x.f1, v2, v3] ∧ k146.R 146 w base ok v2 x.f2 ∧ k27.R 27 w base ok v3 x.f3 := by
  obtain ⟨n, h⟩ := h
  cases n with
  | zero => exact h.elim
  | succ n =>
    obtain ⟨_, _, rfl, rfl, ⟨_, _, rfl, rfl, ⟨_, _, rfl, ⟨v2, rfl, g2⟩, ⟨v3, rfl, g3⟩⟩⟩⟩ := h
    exact ⟨v2, v3, rfl, g2, Kd.fix_R g3⟩
theorem k27_mk (w : World) (x : S27) {A2 : Option Addr} {c2 : Nat} (l2 : x.f2.length ≤ c2) (g2 : k146.C w A2 x.f2.length x.f2) {A3 : Option Addr} {c3 : Nat} (l3 : x.f3.length ≤ c3) (g3 : k27.C w A3 x.f3.length x.f3) : k27.K w x [.int .i64 x.f0, .int .i64 x.f1, .slice A2 x.f2.length c2, .slice A3 x.f3.length c3] := by
  obtain ⟨n3, q3⟩ := Kd.fix_C_back mono27 g3
  have r3 := Kd.upto_C_le mono27 sz27 (show n3 ≤ n3 by omega) q3
  exact ⟨n3 + 1, ⟨[.int .i64 x.f0], [.int .i64 x.f1, .slice A2 x.f2.length c2, .slice A3 x.f3.length c3], rfl, rfl, ⟨[.int .i64 x.f1], [.slice A2 x.f2.length c2, .slice A3 x.f3.length c3], rfl, rfl, ⟨[.slice A2 x.f2.length c2], [.slice A3 x.f3.length c3], rfl, ⟨A2, c2, rfl, l2, g2⟩, ⟨A3, c3, rfl, l3, r3⟩⟩⟩⟩⟩
theorem k27_mkM (w : World) (base : Nat) (ok : Nat → Prop) (x : S27) {v2 : Value} (g2 : k146.R 146 w base ok v2 x.f2) {v3 : Value} (g3 : k27.R 27 w base ok v3 x.f3) : k27.M w base ok x [.int .i64 x.f0, .int .i64 x.f1, v2, v3] := by
  obtain ⟨n3, q3⟩ := Kd.fix_R_back mono27 g3
  have r3 := Kd.upto_R_le mono27 sz27 (show n3 ≤ n3 by omega) q3
  exact ⟨n3 + 1, ⟨[.int .i64 x.f0], [.int .i64 x.f1, v2, v3], rfl, rfl, ⟨[.int .i64 x.f1], [v2, v3], rfl, rfl, ⟨[v2], [v3], rfl, ⟨v2, rfl, g2⟩, ⟨v3, rfl, r3⟩⟩⟩⟩⟩
theorem k27_openF {W : World} {ok : Nat → Prop} {x : S27} {cs : List Value} (h : Kd.FK k27 W ok x cs) : ∃ A2 c2 A3 c3, cs = [.int .i64 x.f0, .int .i64 x.f1, .slice A2 x.f2.length c2, .slice A3 x.f3.length c3] ∧ x.f2.length ≤ c2 ∧ Kd.F k146 W ok A2 x.f2.length x.f2 ∧ x.f3.length ≤ c3 ∧ Kd.F k27 W ok A3 x.f3.length x.f3 := by
  obtain ⟨A2, c2, A3, c3, rfl, l2, _, l3, _⟩ := k27_open (Kd.FK_now h)
  exact ⟨A2, c2, A3, c3, rfl, l2, (fun W' hW => by obtain ⟨A2_, c2_, A3_, c3_, he, l2_, g2_, l3_, g3_⟩ := k27_open (h W' hW); injection (Option.some.inj (show some (Value.slice A2 x.f2.length c2) = some (Value.slice A2_ x.f2.length c2_) from congrArg (fun l => l[2]?) he)) with ha_ _ _; rw [ha_]; exact g2_), l3, (fun W' hW => by obtain ⟨A2_, c2_, A3_, c3_, he, l2_, g2_, l3_, g3_⟩ := k27_open (h W' hW); injection (Option.some.inj (show some (Value.slice A3 x.f3.length c3) = some (Value.slice A3_ x.f3.length c3_) from congrArg (fun l => l[3]?) he)) with ha_ _ _; rw [ha_]; exact g3_)⟩
theorem k27_mkF (W : World) (ok : Nat → Prop) (x : S27) {A2 : Option Addr} {c2 : Nat} (l2 : x.f2.length ≤ c2) (g2 : Kd.F k146 W ok A2 x.f2.length x.f2) {A3 : Option Addr} {c3 : Nat} (l3 : x.f3.length ≤ c3) (g3 : Kd.F k27 W ok A3 x.f3.length x.f3) : Kd.FK k27 W ok x [.int .i64 x.f0, .int .i64 x.f1, .slice A2 x.f2.length c2, .slice A3 x.f3.length c3] := fun W2 hW => k27_mk W2 x l2 (g2 W2 hW) l3 (g3 W2 hW)
def rd_T27 (xs : List S27) (i : Int) : S27 := xs.getD i.toNat z27
theorem at_T27 {w : World} {A : Option Addr} {n : Nat} {xs : List S27} (h : Kd.C k27 w A n xs) (i : Int) (h0 : 0 ≤ i) (h1 : i < n) : ∃ ad A2 c2 A3 c3, A = some ad ∧ w.cell? (ad.add (i.toNat * 4)) = some (.int .i64 (rd_T27 xs i).f0) ∧ w.cell? ⟨(ad.add (i.toNat * 4)).block, (ad.add (i.toNat * 4)).off + 1, none⟩ = some (.int .i64 (rd_T27 xs i).f1) ∧ w.cell? ⟨(ad.add (i.toNat * 4)).block, (ad.add (i.toNat * 4)).off + 2, none⟩ = some (.slice A2 (rd_T27 xs i).f2.length c2) ∧ w.cell? ⟨(ad.add (i.toNat * 4)).block, (ad.add (i.toNat * 4)).off + 3, none⟩ = some (.slice A3 (rd_T27 xs i).f3.length c3) ∧ (rd_T27 xs i).f2.length ≤ c2 ∧ k146.C w A2 (rd_T27 xs i).f2.length (rd_T27 xs i).f2 ∧ (rd_T27 xs i).f3.length ≤ c3 ∧ k27.C w A3 (rd_T27 xs i).f3.length (rd_T27 xs i).f3 := by
  obtain ⟨ad, c, e, _, hK, hc0⟩ := Kd.C_get h z27 i h0 h1
  have hc : ∀ j u, c[j]? = some u → w.cell? (ad.add (i.toNat * 4 + j)) = some u := hc0
  obtain ⟨A2, c2, A3, c3, rfl, l2, g2, l3, g3⟩ := k27_open hK
  exact ⟨ad, A2, c2, A3, c3, e, hc 0 _ rfl, by rw [← add_field _ _ 1 (by omega)]; exact hc 1 _ rfl, by rw [← add_field _ _ 2 (by omega)]; exact hc 2 _ rfl, by rw [← add_field _ _ 3 (by omega)]; exact hc 3 _ rfl, l2, g2, l3, g3⟩

/-! #### struct type 29 -/
structure S29 where
  f0 : Int
  f1 : (List S123)
  f2 : Int
  f3 : (List (List S146))
  f4 : S27
  f5 : Int
  f6 : Int
def z29 : S29 := ⟨(0 : Int), ([] : List S123), (0 : Int), ([] : List (List S146)), z27, (0 : Int), (0 : Int)⟩
def k29 : Kd S29 := Kd.iso (Kd.pair (Kd.int .i64) (Kd.pair (Kd.slice 123 k123) (Kd.pair (Kd.int .i64) (Kd.pair (Kd.slice 24 (Kd.slice 146 k146)) (Kd.pair k27 (Kd.pair (Kd.int .i64) (Kd.int .i64))))))) (fun x : S29 => (x.f0, x.f1, x.f2, x.f3, x.f4, x.f5, x.f6))
theorem k29_open {w : World} {x : S29} {cs : List Value} (h : k29.K w x cs) : ∃ A1 c1 A3 c3 A6 c6 A7 c7, cs = [.int .i64 x.f0, .slice A1 x.f1.length c1, .int .i64 x.f2, .slice A3 x.f3.length c3, .int .i64 x.f4.f0, .int .i64 x.f4.f1, .slice A6 x.f4.f2.length c6, .slice A7 x.f4.f3.length c7, .int .i64 x.f5, .int .i64 x.f6] ∧ x.f1.length ≤ c1 ∧ k123.C w A1 x.f1.length x.f1 ∧ x.f3.length ≤ c3 ∧ (Kd.slice 146 k146).C w A3 x.f3.length x.f3 ∧ x.f4.f2.length ≤ c6 ∧ k146.C w A6 x.f4.f2.length x.f4.f2 ∧ x.f4.f3.length ≤ c7 ∧ k27.C w A7 x.f4.f3.length x.f4.f3 := by
  obtain ⟨_, _, rfl, rfl, ⟨_, _, rfl, ⟨A1, c1, rfl, l1, g1⟩, ⟨_, _, rfl, rfl, ⟨_, _, rfl, ⟨A3, c3, rfl, l3, g3⟩, ⟨_, _, rfl, s4, ⟨_, _, rfl, rfl, rfl⟩⟩⟩⟩⟩⟩ := h
  obtain ⟨A6, c6, A7, c7, rfl, l6, g6, l7, g7⟩ := k27_open s4
  exact ⟨A1, c1, A3, c3, A6, c6, A7, c7, rfl, l1, g1, l3, g3, l6, g6, l7, g7⟩
theorem k29_openM {w : World} {base : Nat} {ok : Nat → Prop} {x : S29} {cs : List Value} (h : k29.M w base ok x cs) : ∃ v1 v3 v6 v7, cs = [.int .i64 x.f0, v1, .int .i64 x.f2, v3, .int .i64 x.f4.f0, .int .i64 x.f4.f1, v6, v7, .int .i64 x.f5, .int .i64 x.f6] ∧ k123.R 123 w base ok v1 x.f1 ∧ (Kd.slice 146 k146).R 24 w base ok v3 x.f3 ∧ k146.R 146 w base ok v6 x.f4.f2 ∧ k27.R 27 w base ok v7 x.f4.f3 := by
  obtain ⟨_, _, rfl, rfl, ⟨_, _, rfl, ⟨v1, rfl, g1⟩, ⟨_, _, rfl, rfl, ⟨_, _, rfl, ⟨v3, rfl, g3⟩, ⟨_, _, rfl, s4, ⟨_, _, rfl, rfl, rfl⟩⟩⟩⟩⟩⟩ := h
  obtain ⟨v6, v7, rfl, g6, g7⟩ := k27_openM s4
  exact ⟨v1, v3, v6, v7, rfl, g1, g3, g6, g7⟩
theorem k29_mk (w : World) (x : S29) {A1 : Option Addr} {c1 : Nat} (l1 : x.f1.length ≤ c1) (g1 : k123.C w A1 x.f1.length x.f1) {A3 : Option Addr} {c3 : Nat} (l3 : x.f3.length ≤ c3) (g3 : (Kd.slice 146 k146).C w A3 x.f3.length x.f3) {A6 : Option Addr} {c6 : Nat} (l6 : x.f4.f2.length ≤ c6) (g6 : k146.C w A6 x.f4.f2.length x.f4.f2) {A7 : Option Addr} {c7 : Nat} (l7 : x.f4.f3.length ≤ c7) (g7 : k27.C w A7 x.f4.f3.length x.f4.f3) : k29.K w x [.int .i64 x.f0, .slice A1 x.f1.length c1, .int .i64 x.f2, .slice A3 x.f3.length c3, .int .i64 x.f4.f0, .int .i64 x.f4.f1, .slice A6 x.f4.f2.length c6, .slice A7 x.f4.f3.length c7, .int .i64 x.f5, .int .i64 x.f6] := ⟨[.int .i64 x.f0], [.slice A1 x.f1.length c1, .int .i64 x.f2, .slice A3 x.f3.length c3, .int .i64 x.f4.f0, .int .i64 x.f4.f1, .slice A6 x.f4.f2.length c6, .slice A7 x.f4.f3.length c7, .int .i64 x.f5, .int .i64 x.f6], rfl, rfl, ⟨[.slice A1 x.f1.length c1], [.int .i64 x.f2, .slice A3 x.f3.length c3, .int .i64 x.f4.f0, .int .i64 x.f4.f1, .slice A6 x.f4.f2.length c6, .slice A7 x.f4.f3.length c7, .int .i64 x.f5, .int .i64 x.f6], rfl, ⟨A1, c1, rfl, l1, g1⟩, ⟨[.int .i64 x.f2], [.slice A3 x.f3.length c3, .int .i64 x.f4.f0, .int .i64 x.f4.f1, .slice A6 x.f4.f2.length c6, .slice A7 x.f4.f3.length c7, .int .i64 x.f5, .int .i64 x.f6], rfl, rfl, ⟨[.slice A3 x.f3.length c3], [.int .i64 x.f4.f0, .int .i64 x.f4.f1, .slice A6 x.f4.f2.length c6, .slice A7 x.f4.f3.length c7, .int .i64 x.f5, .int .i64 x.f6], rfl, ⟨A3, c3, rfl, l3, g3⟩, ⟨[.int .i64 x.f4.f0, .int .i64 x.f4.f1, .slice A6 x.f4.f2.length c6, .slice A7 x.f4.f3.length c7], [.int .i64 x.f5, .int .i64 x.f6], rfl, (k27_mk w x.f4 l6 g6 l7 g7), ⟨[.int .i64 x.f5], [.int .i64 x.f6], rfl, rfl, rfl⟩⟩⟩⟩⟩⟩
theorem k29_mkM (w : World) (base : Nat) (ok : Nat → Prop) (x : S29) {v1 : Value} (g1 : k123.R 123 w base ok v1 x.f1) {v3 : Value} (g3 : (Kd.slice 146 k146).R 24 w base ok v3 x.f3) {v6 : Value} (g6 : k146.R 146 w base ok v6 x.f4.f2) {v7 : Value} (g7 : k27.R 27 w base ok v7 x.f4.f3) : k29.M w base ok x [.int .i64 x.f0, v1, .int .i64 x.f2, v3, .int .i64 x.f4.f0, .int .i64 x.f4.f1, v6, v7, .int .i64 x.f5, .int .i64 x.f6] := ⟨[.int .i64 x.f0], [v1, .int .i64 x.f2, v3, .int .i64 x.f4.f0, .int .i64 x.f4.f1, v6, v7, .int .i64 x.f5, .int .i64 x.f6], rfl, rfl, ⟨[v1], [.int .i64 x.f2, v3, .int .i64 x.f4.f0, .int .i64 x.f4.f1, v6, v7, .int .i64 x.f5, .int .i64 x.f6], rfl, ⟨v1, rfl, g1⟩, ⟨[.int .i64 x.f2], [v3, .int .i64 x.f4.f0, .int .i64 x.f4.f1, v6, v7, .int .i64 x.f5, .int .i64 x.f6], rfl, rfl, ⟨[v3], [.int .i64 x.f4.f0, .int .i64 x.f4.f1, v6, v7, .int .i64 x.f5, .int .i64 x.f6], rfl, ⟨v3, rfl, g3⟩, ⟨[.int .i64 x.f4.f0, .int .i64 x.f4.f1, v6, v7], [.int .i64 x.f5, .int .i64 x.f6], rfl, (k27_mkM w base ok x.f4 g6 g7), ⟨[.int .i64 x.f5], [.int .i64 x.f6], rfl, rfl, rfl⟩⟩⟩⟩⟩⟩
theorem k29_openF {W : World} {ok : Nat → Prop} {x : S29} {cs : List Value} (h : Kd.FK k29 W ok x cs) : ∃ A1 c1 A3 c3 A6 c6 A7 c7, cs = [.int .i64 x.f0, .slice A1 x.f1.length c1, .int .i64 x.f2, .slice A3 x.f3.length c3, .int .i64 x.f4.f0, .int .i64 x.f4.f1, .slice A6 x.f4.f2.length c6, .slice A7 x.f4.f3.length c7, .int .i64 x.f5, .int .i64 x.f6] ∧ x.f1.length ≤ c1 ∧ Kd.F k123 W ok A1 x.f1.length x.f1 ∧ x.f3.length ≤ c3 ∧ Kd.F (Kd.slice 146 k146) W ok A3 x.f3.length x.f3 ∧ x.f4.f2.length ≤ c6 ∧ Kd.F k146 W ok A6 x.f4.f2.length x.f4.f2 ∧ x.f4.f3.length ≤ c7 ∧ Kd.F k27 W ok A7 x.f4.f3.length x.f4.f3 := by
  obtain ⟨A1, c1, A3, c3, A6, c6, A7, c7, rfl, l1, _, l3, _, l6, _, l7, _⟩ := k29_open (Kd.FK_now h)
  exact ⟨A1, c1, A3, c3, A6, c6, A7, c7, rfl, l1, (fun W' hW => by obtain ⟨A1_, c1_, A3_, c3_, A6_, c6_, A7_, c7_, he, l1_, g1_, l3_, g3_, l6_, g6_, l7_, g7_⟩ := k29_open (h W' hW); injection (Option.some.inj (show some (Value.slice A1 x.f1.length c1) = some (Value.slice A1_ x.f1.length c1_) from congrArg (fun l => l[1]?) he)) with ha_ _ _; rw [ha_]; exact g1_), l3, (fun W' hW => by obtain ⟨A1_, c1_, A3_, c3_, A6_, c6_, A7_, c7_, he, l1_, g1_, l3_, g3_, l6_, g6_, l7_, g7_⟩ := k29_open (h W' hW); injection (Option.some.inj (show some (Value.slice A3 x.f3.length c3) = some (Value.slice A3_ x.f3.length c3_) from congrArg (fun l => l[3]?) he)) with ha_ _ _; rw [ha_]; exact g3_), l6, (fun W' hW => by obtain ⟨A1_, c1_, A3_, c3_, A6_, c6_, A7_, c7_, he, l1_, g1_, l3_, g3_, l6_, g6_, l7_, g7_⟩ := k29_open (h W' hW); injection (Option.some.inj (show some (Value.slice A6 x.f4.f2.length c6) = some (Value.slice A6_ x.f4.f2.length c6_) from congrArg (fun l => l[6]?) he)) with ha_ _ _; rw [ha_]; exact g6_), l7, (fun W' hW => by obtain ⟨A1_, c1_, A3_, c3_, A6_, c6_, A7_, c7_, he, l1_, g1_, l3_, g3_, l6_, g6_, l7_, g7_⟩ := k29_open (h W' hW); injection (Option.some.inj (show some (Value.slice A7 x.f4.f3.length c7) = some (Value.slice A7_ x.f4.f3.length c7_) from congrArg (fun l => l[7]?) he)) with ha_ _ _; rw [ha_]; exact g7_)⟩
theorem k29_mkF (W : World) (ok : Nat → Prop) (x : S29) {A1 : Option Addr} {c1 : Nat} (l1 : x.f1.length ≤ c1) (g1 : Kd.F k123 W ok A1 x.f1.length x.f1) {A3 : Option Addr} {c3 : Nat} (l3 : x.f3.length ≤ c3) (g3 : Kd.F (Kd.slice 146 k146) W ok A3 x.f3.length x.f3) {A6 : Option Addr} {c6 : Nat} (l6 : x.f4.f2.length ≤ c6) (g6 : Kd.F k146 W ok A6 x.f4.f2.length x.f4.f2) {A7 : Option Addr} {c7 : Nat} (l7 : x.f4.f3.length ≤ c7) (g7 : Kd.F k27 W ok A7 x.f4.f3.length x.f4.f3) : Kd.FK k29 W ok x [.int .i64 x.f0, .slice A1 x.f1.length c1, .int .i64 x.f2, .slice A3 x.f3.length c3, .int .i64 x.f4.f0, .int .i64 x.f4.f1, .slice A6 x.f4.f2.length c6, .slice A7 x.f4.f3.length c7, .int .i64 x.f5, .int .i64 x.f6] := fun W2 hW => k29_mk W2 x l1 (g1 W2 hW) l3 (g3 W2 hW) l6 (g6 W2 hW) l7 (g7 W2 hW)
def rd_T29 (xs : List S29) (i : Int) : S29 := xs.getD i.toNat z29
theorem at_T29 {w : World} {A : Option Addr} {n : Nat} {xs : List S29} (h : Kd.C k29 w A n xs) (i : Int) (h0 : 0 ≤ i) (h1 : i < n) : ∃ ad A1 c1 A3 c3 A6 c6 A7 c7, A = some ad ∧ w.cell? (ad.add (i.toNat * 10)) = some (.int .i64 (rd_T29 xs i).f0) ∧ w.cell? ⟨(ad.add (i.toNat * 10)).block, (ad.add (i.toNat * 10)).off + 1, none⟩ = some (.slice A1 (rd_T29 xs i).f1.length c1) ∧ w.cell? ⟨(ad.add (i.toNat * 10)).block, (ad.add (i.toNat * 10)).off + 2, none⟩ = some (.int .i64 (rd_T29 xs i).f2) ∧ w.cell? ⟨(ad.add (i.toNat * 10)).block, (ad.add (i.toNat * 10)).off + 3, none⟩ = some (.slice A3 (rd_T29 xs i).f3.length c3) ∧ w.cell? ⟨(ad.add (i.toNat * 10)).block, (ad.add (i.toNat * 10)).off + 4, none⟩ = some (.int .i64 (rd_T29 xs i).f4.f0) ∧ w.cell? ⟨(ad.add (i.toNat * 10)).block, (ad.add (i.toNat * 10)).off + 5, none⟩ = some (.int .i64 (rd_T29 xs i).f4.f1) ∧ w.cell? ⟨(ad.add (i.toNat * 10)).block, (ad.add (i.toNat * 10)).off + 6, none⟩ = some (.slice A6 (rd_T29 xs i).f4.f2.length c6) ∧ w.cell? ⟨(ad.add (i.toNat * 10)).block, (ad.add (i.toNat * 10)).off + 7, none⟩ = some (.slice A7 (rd_T29 xs i).f4.f3.length c7) ∧ w.cell? ⟨(ad.add (i.toNat * 10)).block, (ad.add (i.toNat * 10)).off + 8, none⟩ = some (.int .i64 (rd_T29 xs i).f5) ∧ w.cell? ⟨(ad.add (i.toNat * 10)).block, (ad.add (i.toNat * 10)).off + 9, none⟩ = some (.int .i64 (rd_T29 xs i).f6) ∧ (rd_T29 xs i).f1.length ≤ c1 ∧ k123.C w A1 (rd_T29 xs i).f1.length (rd_T29 xs i).f1 ∧ (rd_T29 xs i).f3.length ≤ c3 ∧ (Kd.slice 146 k146).C w A3 (rd_T29 xs i).f3.length (rd_T29 xs i).f3 ∧ (rd_T29 xs i).f4.f2.length ≤ c6 ∧ k146.C w A6 (rd_T29 xs i).f4.f2.length (rd_T29 xs i).f4.f2 ∧ (rd_T29 xs i).f4.f3.length ≤ c7 ∧ k27.C w A7 (rd_T29 xs i).f4.f3.length (rd_T29 xs i).f4.f3 := by
  obtain ⟨ad, c, e, _, hK, hc0⟩ := Kd.C_get h z29 i h0 h1
  have hc : ∀ j u, c[j]? = some u → w.cell? (ad.add (i.toNat * 10 + j)) = some u := hc0
  obtain ⟨A1, c1, A3, c3, A6, c6, A7, c7, rfl, l1, g1, l3, g3, l6, g6, l7, g7⟩ := k29_open hK
  exact ⟨ad, A1, c1, A3, c3, A6, c6, A7, c7, e, hc 0 _ rfl, by rw [← add_field _ _ 1 (by omega)]; exact hc 1 _ rfl, by rw [← add_field _ _ 2 (by omega)]; exact hc 2 _ rfl, by rw [← add_field _ _ 3 (by omega)]; exact hc 3 _ rfl, by rw [← add_field _ _ 4 (by omega)]; exact hc 4 _ rfl, by rw [← add_field _ _ 5 (by omega)]; exact hc 5 _ rfl, by rw [← add_field _ _ 6 (by omega)]; exact hc 6 _ rfl, by rw [← add_field _ _ 7 (by omega)]; exact hc 7 _ rfl, by rw [← add_field _ _ 8 (by omega)]; exact hc 8 _ rfl, by rw [← add_field _ _ 9 (by omega)]; exact hc 9 _ rfl, l1, g1, l3, g3, l6, g6, l7, g7⟩

end Go.Proofs.YtibdikihgdkfnaaGreatDoor.PSto

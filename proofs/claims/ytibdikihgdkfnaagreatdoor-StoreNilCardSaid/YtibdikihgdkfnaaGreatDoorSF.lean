/- Texts of this proof, put into one: EvAC, EvAD, EvAE. -/
import Derived.RangeFuncNested
import Derived.RangeFuncBound
import Derived.RangeFuncCalls
import Derived.RangeFuncLeaves
import Derived.Shelf.Abstract
import Derived.Shelf.RegionOpen
import Derived.WalkKit
import Derived.OwnWalkIn
import Derived.TacticsInMore
import Derived.LoopNIn
import Derived.LoopIn
import Derived.Test.YtibdikihgdkfnaaGreatDoorProg
import Derived.Test.YtibdikihgdkfnaaGreatDoorSB
import Derived.RangeFuncFrom
import Derived.Test.YtibdikihgdkfnaaGreatDoorPStox2
import Derived.Test.YtibdikihgdkfnaaGreatDoorSE
section
/- A reckoner, twenty-ninth part: the runs of a row of one number. -/
namespace Go.Proofs.YtibdikihgdkfnaaGreatDoor.Runs
open Go.RowKit Go.Shelf Go.Proofs.YtibdikihgdkfnaaGreatDoorW.PrintLast Go.Proofs.YtibdikihgdkfnaaGreatDoor.Ev
attribute [local go_sem] Oper.semAt_some
set_option linter.unusedVariables false
set_option linter.unusedSimpArgs false
/-- The two blocks that the iterator reads are as they were. -/
def Keep (b c : Nat) (A B : World) : Prop := B.heap[b]? = A.heap[b]? ∧ B.heap[c]? = A.heap[c]?
theorem Keep.refl (b c : Nat) (A : World) : Keep b c A A := ⟨rfl, rfl⟩
theorem Keep.trans {b c : Nat} {A B C : World} (h : Keep b c A B) (k : Keep b c B C) : Keep b c A C := ⟨k.1.trans h.1, k.2.trans h.2⟩
def encs (_ : Unit) : Array Value := #[.int .i64 7, .int .i64 1]
set_option maxRecDepth 100000 in
set_option maxHeartbeats 2000000 in
theorem each_in (n : Nat) (hn : 1 ≤ n) (l Bs b off cap : Nat) (J Jx : List Unit → World → Prop)
    (hY : ∀ pre x W, J pre W → pre.length < 1 → YieldAt Fence.wide (n - 1) Tryz.prog l (encs x) W fun e W' =>
      (e = .returned (.bool true) ∧ J (pre ++ [x]) W' ∧ Keep b Bs W W') ∨ (e = .returned (.bool false) ∧ Jx (pre ++ [x]) W'))
    (W : World) (hBs : W.cell? ⟨Bs, 0, none⟩ = some (.slice (some ⟨b, off, none⟩) 1 cap)) (hc : W.cell? ⟨b, off, none⟩ = some (.int .i64 7)) (h0 : J [] W) (hdr : ∀ s A, J s A → J s A.drew) :
    CallsIn Fence.wide n Tryz.prog 322 #[.func (.yield l) #[] #[], .pointer (some ⟨Bs, 0, none⟩)] W fun e W' => (∃ v, e = .returned v) ∧
      ((∃ ys, ys = [()] ∧ J ys W') ∨ (∃ pre, True ∧ Jx pre W')) := by
  refine callsIn_of_wp Tryz.func322 rfl trivial ?_ rfl
  simp only [Tryz.ntmps322, List.size_toArray, List.length_cons, List.length_nil, Nat.reduceAdd, Nat.reduceSub, Array.replicate_succ, Array.replicate_zero, List.push_toArray, List.append_toArray, List.nil_append, List.cons_append]
  gi_wp2
  gi_loopw [3] (fun i wr => ∃ k : Nat, i = .int .i64 k ∧ ((k = 0 ∧ J [] wr ∧ Keep b Bs W wr) ∨ (k = 1 ∧ J [()] wr ∧ Keep b Bs W wr)))
    (fun i _ => 1 - (intOf i).toNat)
  case atStart => exact ⟨0, rfl, .inl ⟨rfl, h0, Keep.refl _ _ _⟩⟩
  case round =>
    obtain ⟨k, rfl, ⟨rfl, hJs, hnx⟩ | ⟨rfl, hJs, hnx⟩⟩ := hrel
    · have hB1 : wr.cell? ⟨Bs, 0, none⟩ = some (.slice (some ⟨b, off, none⟩) 1 cap) := (World.cell?_of_block (a := ⟨Bs, 0, none⟩) hnx.2).trans hBs
      have hc1 : wr.cell? ⟨b, off, none⟩ = some (.int .i64 7) := (World.cell?_of_block (a := ⟨b, off, none⟩) hnx.1).trans hc
      gi_wp2
      gi_loopw [4] (fun i w4 => i = .int .i64 1 ∧ w4 = wr) (fun _ _ => 0)
      case atStart => exact ⟨rfl, rfl⟩
      case round =>
        obtain ⟨rfl, rfl⟩ := hrel
        gi_wp2
        have hmix : Tryz.prog.follows .mixedOrders = true := by kernel_rfl
        refine wpIn_wide.2 (wp_region_last_drew (S := fun W4 => W4.cell? ⟨Bs, 0, none⟩ = some (.slice (some ⟨b, off, none⟩) 1 cap)) (ds := []) hmix hB1 (fun hS4 => ?_))
        refine pure_ (i := 0) #[true, false, false, false, false, false, false, false, false, false, false, false, false, false, false] rfl rfl (by kernel_rfl) (fun _ _ _ h => h) (.inl ⟨rfl, fun w5 => by simp [execOp, Act.eval, binOp, eqGuard, Op.intCmp, asBool]⟩) (a' := { tmps := #[Value.func (Fn.yield l) #[] #[], Value.pointer (some ⟨Bs, 0, none⟩), undef, Value.int IntKind.i64 (0 : Nat), Value.int IntKind.i64 1, Value.int IntKind.i64 (0 : Nat), Value.slice (some ⟨b, off, none⟩) 1 cap, Value.int IntKind.i64 1, Value.bool true, Value.int IntKind.i64 (0 : Nat), Value.int IntKind.i64 1, Value.int IntKind.i64 1, u12, u13, u14, u15, u16, u17, u18, u19, u20, u21, u22, u23, u24, u25, u26, u27, u28, u29, u30, u31, u32, u33, u34, u35, u36, u37, u38], defers := [] }) rfl ?_
        refine take_ (i := 1) #[true, true, false, false, false, false, false, false, false, false, false, false, false, false, false] rfl rfl (by kernel_rfl) (fun _ _ _ h => h) (.inl ⟨rfl, fun w5 h5 => by have h5 : w5.cell? ⟨Bs, 0, none⟩ = some (Value.slice (some ⟨b, off, none⟩) 1 cap) := h5; simp [execOp, Act.eval, Instr.loadAt, Instr.sureAddr, loadVar, isAgg_false Tryz.underlying368 (fun h => by cases h), load, Sem.run, h5]⟩) (by assumption) (a' := { tmps := #[Value.func (Fn.yield l) #[] #[], Value.pointer (some ⟨Bs, 0, none⟩), undef, Value.int IntKind.i64 (0 : Nat), Value.int IntKind.i64 1, Value.int IntKind.i64 (0 : Nat), Value.slice (some ⟨b, off, none⟩) 1 cap, Value.int IntKind.i64 1, Value.bool true, Value.int IntKind.i64 (0 : Nat), Value.int IntKind.i64 1, Value.int IntKind.i64 1, Value.slice (some ⟨b, off, none⟩) 1 cap, u13, u14, u15, u16, u17, u18, u19, u20, u21, u22, u23, u24, u25, u26, u27, u28, u29, u30, u31, u32, u33, u34, u35, u36, u37, u38], defers := [] }) rfl ?_
        refine pure_ (i := 2) #[true, true, true, false, false, false, false, false, false, false, false, false, false, false, false] rfl rfl (by kernel_rfl) (fun _ _ _ h => h) (.inl ⟨rfl, fun w5 => builtin_run (f := Builtin.len_) rfl rfl (fun _ _ _ _ => rfl) (by simp [Builtin.len_, run_underlying Tryz.underlying368, Act.eval, goInt])⟩) (a' := { tmps := #[Value.func (Fn.yield l) #[] #[], Value.pointer (some ⟨Bs, 0, none⟩), undef, Value.int IntKind.i64 (0 : Nat), Value.int IntKind.i64 1, Value.int IntKind.i64 (0 : Nat), Value.slice (some ⟨b, off, none⟩) 1 cap, Value.int IntKind.i64 1, Value.bool true, Value.int IntKind.i64 (0 : Nat), Value.int IntKind.i64 1, Value.int IntKind.i64 1, Value.slice (some ⟨b, off, none⟩) 1 cap, Value.int IntKind.i64 1, u14, u15, u16, u17, u18, u19, u20, u21, u22, u23, u24, u25, u26, u27, u28, u29, u30, u31, u32, u33, u34, u35, u36, u37, u38], defers := [] }) rfl ?_
        refine pure_ (i := 3) #[true, true, true, true, false, false, false, false, false, false, false, false, false, false, false] rfl rfl (by kernel_rfl) (fun _ _ _ h => h) (.inl ⟨rfl, fun w5 => by simp [execOp, Act.eval, binOp, eqGuard, Op.intCmp, asBool]⟩) (a' := { tmps := #[Value.func (Fn.yield l) #[] #[], Value.pointer (some ⟨Bs, 0, none⟩), undef, Value.int IntKind.i64 (0 : Nat), Value.int IntKind.i64 1, Value.int IntKind.i64 (0 : Nat), Value.slice (some ⟨b, off, none⟩) 1 cap, Value.int IntKind.i64 1, Value.bool true, Value.int IntKind.i64 (0 : Nat), Value.int IntKind.i64 1, Value.int IntKind.i64 1, Value.slice (some ⟨b, off, none⟩) 1 cap, Value.int IntKind.i64 1, Value.bool false, u15, u16, u17, u18, u19, u20, u21, u22, u23, u24, u25, u26, u27, u28, u29, u30, u31, u32, u33, u34, u35, u36, u37, u38], defers := [] }) rfl ?_
        refine pure_ (i := 4) #[true, true, true, true, true, false, false, false, false, false, false, false, false, false, false] rfl rfl (by kernel_rfl) (fun _ _ _ h => h) (.inl ⟨rfl, fun w5 => by simp [execOp, Act.eval, binOp, eqGuard, Op.intCmp, asBool]⟩) (a' := { tmps := #[Value.func (Fn.yield l) #[] #[], Value.pointer (some ⟨Bs, 0, none⟩), undef, Value.int IntKind.i64 (0 : Nat), Value.int IntKind.i64 1, Value.int IntKind.i64 (0 : Nat), Value.slice (some ⟨b, off, none⟩) 1 cap, Value.int IntKind.i64 1, Value.bool true, Value.int IntKind.i64 (0 : Nat), Value.int IntKind.i64 1, Value.int IntKind.i64 1, Value.slice (some ⟨b, off, none⟩) 1 cap, Value.int IntKind.i64 1, Value.bool false, Value.bool false, u16, u17, u18, u19, u20, u21, u22, u23, u24, u25, u26, u27, u28, u29, u30, u31, u32, u33, u34, u35, u36, u37, u38], defers := [] }) rfl ?_
        refine pure_ (i := 5) #[true, true, true, true, true, true, false, false, false, false, false, false, false, false, false] rfl rfl (by kernel_rfl) (fun _ _ _ h => h) (.inr ⟨rfl, rfl⟩) (a' := { tmps := #[Value.func (Fn.yield l) #[] #[], Value.pointer (some ⟨Bs, 0, none⟩), undef, Value.int IntKind.i64 (0 : Nat), Value.int IntKind.i64 1, Value.int IntKind.i64 (0 : Nat), Value.slice (some ⟨b, off, none⟩) 1 cap, Value.int IntKind.i64 1, Value.bool true, Value.int IntKind.i64 (0 : Nat), Value.int IntKind.i64 1, Value.int IntKind.i64 1, Value.slice (some ⟨b, off, none⟩) 1 cap, Value.int IntKind.i64 1, Value.bool false, Value.bool false, undef, u17, u18, u19, u20, u21, u22, u23, u24, u25, u26, u27, u28, u29, u30, u31, u32, u33, u34, u35, u36, u37, u38], defers := [] }) rfl ?_
        refine pure_ (i := 6) #[true, true, true, true, true, true, true, false, false, false, false, false, false, false, false] rfl rfl (by kernel_rfl) (fun _ _ _ h => h) (.inr ⟨rfl, rfl⟩) (a' := { tmps := #[Value.func (Fn.yield l) #[] #[], Value.pointer (some ⟨Bs, 0, none⟩), undef, Value.int IntKind.i64 (0 : Nat), Value.int IntKind.i64 1, Value.int IntKind.i64 (0 : Nat), Value.slice (some ⟨b, off, none⟩) 1 cap, Value.int IntKind.i64 1, Value.bool true, Value.int IntKind.i64 (0 : Nat), Value.int IntKind.i64 1, Value.int IntKind.i64 1, Value.slice (some ⟨b, off, none⟩) 1 cap, Value.int IntKind.i64 1, Value.bool false, Value.bool false, undef, undef, u18, u19, u20, u21, u22, u23, u24, u25, u26, u27, u28, u29, u30, u31, u32, u33, u34, u35, u36, u37, u38], defers := [] }) rfl ?_
        refine pure_ (i := 7) #[true, true, true, true, true, true, true, true, false, false, false, false, false, false, false] rfl rfl (by kernel_rfl) (fun _ _ _ h => h) (.inr ⟨rfl, rfl⟩) (a' := { tmps := #[Value.func (Fn.yield l) #[] #[], Value.pointer (some ⟨Bs, 0, none⟩), undef, Value.int IntKind.i64 (0 : Nat), Value.int IntKind.i64 1, Value.int IntKind.i64 (0 : Nat), Value.slice (some ⟨b, off, none⟩) 1 cap, Value.int IntKind.i64 1, Value.bool true, Value.int IntKind.i64 (0 : Nat), Value.int IntKind.i64 1, Value.int IntKind.i64 1, Value.slice (some ⟨b, off, none⟩) 1 cap, Value.int IntKind.i64 1, Value.bool false, Value.bool false, undef, undef, undef, u19, u20, u21, u22, u23, u24, u25, u26, u27, u28, u29, u30, u31, u32, u33, u34, u35, u36, u37, u38], defers := [] }) rfl ?_
        refine pure_ (i := 8) #[true, true, true, true, true, true, true, true, true, false, false, false, false, false, false] rfl rfl (by kernel_rfl) (fun _ _ _ h => h) (.inr ⟨rfl, rfl⟩) (a' := { tmps := #[Value.func (Fn.yield l) #[] #[], Value.pointer (some ⟨Bs, 0, none⟩), undef, Value.int IntKind.i64 (0 : Nat), Value.int IntKind.i64 1, Value.int IntKind.i64 (0 : Nat), Value.slice (some ⟨b, off, none⟩) 1 cap, Value.int IntKind.i64 1, Value.bool true, Value.int IntKind.i64 (0 : Nat), Value.int IntKind.i64 1, Value.int IntKind.i64 1, Value.slice (some ⟨b, off, none⟩) 1 cap, Value.int IntKind.i64 1, Value.bool false, Value.bool false, undef, undef, undef, undef, u20, u21, u22, u23, u24, u25, u26, u27, u28, u29, u30, u31, u32, u33, u34, u35, u36, u37, u38], defers := [] }) rfl ?_
        refine pure_ (i := 9) #[true, true, true, true, true, true, true, true, true, true, false, false, false, false, false] rfl rfl (by kernel_rfl) (fun _ _ _ h => h) (.inr ⟨rfl, rfl⟩) (a' := { tmps := #[Value.func (Fn.yield l) #[] #[], Value.pointer (some ⟨Bs, 0, none⟩), undef, Value.int IntKind.i64 (0 : Nat), Value.int IntKind.i64 1, Value.int IntKind.i64 (0 : Nat), Value.slice (some ⟨b, off, none⟩) 1 cap, Value.int IntKind.i64 1, Value.bool true, Value.int IntKind.i64 (0 : Nat), Value.int IntKind.i64 1, Value.int IntKind.i64 1, Value.slice (some ⟨b, off, none⟩) 1 cap, Value.int IntKind.i64 1, Value.bool false, Value.bool false, undef, undef, undef, undef, undef, u21, u22, u23, u24, u25, u26, u27, u28, u29, u30, u31, u32, u33, u34, u35, u36, u37, u38], defers := [] }) rfl ?_
        refine pure_ (i := 10) #[true, true, true, true, true, true, true, true, true, true, true, false, false, false, false] rfl rfl (by kernel_rfl) (fun _ _ _ h => h) (.inr ⟨rfl, rfl⟩) (a' := { tmps := #[Value.func (Fn.yield l) #[] #[], Value.pointer (some ⟨Bs, 0, none⟩), undef, Value.int IntKind.i64 (0 : Nat), Value.int IntKind.i64 1, Value.int IntKind.i64 (0 : Nat), Value.slice (some ⟨b, off, none⟩) 1 cap, Value.int IntKind.i64 1, Value.bool true, Value.int IntKind.i64 (0 : Nat), Value.int IntKind.i64 1, Value.int IntKind.i64 1, Value.slice (some ⟨b, off, none⟩) 1 cap, Value.int IntKind.i64 1, Value.bool false, Value.bool false, undef, undef, undef, undef, undef, undef, u22, u23, u24, u25, u26, u27, u28, u29, u30, u31, u32, u33, u34, u35, u36, u37, u38], defers := [] }) rfl ?_
        refine pure_ (i := 11) #[true, true, true, true, true, true, true, true, true, true, true, true, false, false, false] rfl rfl (by kernel_rfl) (fun _ _ _ h => h) (.inr ⟨rfl, rfl⟩) (a' := { tmps := #[Value.func (Fn.yield l) #[] #[], Value.pointer (some ⟨Bs, 0, none⟩), undef, Value.int IntKind.i64 (0 : Nat), Value.int IntKind.i64 1, Value.int IntKind.i64 (0 : Nat), Value.slice (some ⟨b, off, none⟩) 1 cap, Value.int IntKind.i64 1, Value.bool true, Value.int IntKind.i64 (0 : Nat), Value.int IntKind.i64 1, Value.int IntKind.i64 1, Value.slice (some ⟨b, off, none⟩) 1 cap, Value.int IntKind.i64 1, Value.bool false, Value.bool false, undef, undef, undef, undef, undef, undef, undef, u23, u24, u25, u26, u27, u28, u29, u30, u31, u32, u33, u34, u35, u36, u37, u38], defers := [] }) rfl ?_
        refine pure_ (i := 12) #[true, true, true, true, true, true, true, true, true, true, true, true, true, false, false] rfl rfl (by kernel_rfl) (fun _ _ _ h => h) (.inr ⟨rfl, rfl⟩) (a' := { tmps := #[Value.func (Fn.yield l) #[] #[], Value.pointer (some ⟨Bs, 0, none⟩), undef, Value.int IntKind.i64 (0 : Nat), Value.int IntKind.i64 1, Value.int IntKind.i64 (0 : Nat), Value.slice (some ⟨b, off, none⟩) 1 cap, Value.int IntKind.i64 1, Value.bool true, Value.int IntKind.i64 (0 : Nat), Value.int IntKind.i64 1, Value.int IntKind.i64 1, Value.slice (some ⟨b, off, none⟩) 1 cap, Value.int IntKind.i64 1, Value.bool false, Value.bool false, undef, undef, undef, undef, undef, undef, undef, undef, u24, u25, u26, u27, u28, u29, u30, u31, u32, u33, u34, u35, u36, u37, u38], defers := [] }) rfl ?_
        refine pure_ (i := 13) #[true, true, true, true, true, true, true, true, true, true, true, true, true, true, false] rfl rfl (by kernel_rfl) (fun _ _ _ h => h) (.inr ⟨rfl, rfl⟩) (a' := { tmps := #[Value.func (Fn.yield l) #[] #[], Value.pointer (some ⟨Bs, 0, none⟩), undef, Value.int IntKind.i64 (0 : Nat), Value.int IntKind.i64 1, Value.int IntKind.i64 (0 : Nat), Value.slice (some ⟨b, off, none⟩) 1 cap, Value.int IntKind.i64 1, Value.bool true, Value.int IntKind.i64 (0 : Nat), Value.int IntKind.i64 1, Value.int IntKind.i64 1, Value.slice (some ⟨b, off, none⟩) 1 cap, Value.int IntKind.i64 1, Value.bool false, Value.bool false, undef, undef, undef, undef, undef, undef, undef, undef, undef, u25, u26, u27, u28, u29, u30, u31, u32, u33, u34, u35, u36, u37, u38], defers := [] }) rfl ?_
        refine pure_ (i := 14) #[true, true, true, true, true, true, true, true, true, true, true, true, true, true, true] rfl rfl (by kernel_rfl) (fun _ _ _ h => h) (.inl ⟨rfl, fun w5 => by simp [execOp, Act.eval, binOp, eqGuard, Op.intCmp, asBool]⟩) (a' := { tmps := #[Value.func (Fn.yield l) #[] #[], Value.pointer (some ⟨Bs, 0, none⟩), undef, Value.int IntKind.i64 (0 : Nat), Value.int IntKind.i64 1, Value.int IntKind.i64 (0 : Nat), Value.slice (some ⟨b, off, none⟩) 1 cap, Value.int IntKind.i64 1, Value.bool true, Value.int IntKind.i64 (0 : Nat), Value.int IntKind.i64 1, Value.int IntKind.i64 1, Value.slice (some ⟨b, off, none⟩) 1 cap, Value.int IntKind.i64 1, Value.bool false, Value.bool false, undef, undef, undef, undef, undef, undef, undef, undef, undef, Value.bool false, u26, u27, u28, u29, u30, u31, u32, u33, u34, u35, u36, u37, u38], defers := [] }) rfl ?_
        refine done_ (by kernel_rfl) ?_
        obtain ⟨fn, tmps, assign, body, hy, hR⟩ := hY [] () wr.drew (hdr _ _ hJs) (by simp)
        dsimp only [encs] at hy
        have hc2 : wr.drew.cell? ⟨b, off, none⟩ = some (.int .i64 7) := hc1
        have hB2 : wr.drew.cell? ⟨Bs, 0, none⟩ = some (.slice (some ⟨b, off, none⟩) 1 cap) := hB1
        gi_wp2
        refine hR.mono ?_
        rintro e W3 (⟨rfl, hJ3, hk3⟩ | ⟨rfl, hJx3⟩)
        · gi_wp2
          go_roundw
          case rel => exact ⟨1, rfl, .inr ⟨rfl, hJ3, (hnx.trans (C := wr.drew) ⟨rfl, rfl⟩).trans hk3⟩⟩
          case measure => simp [intOf]
        · gi_wp2
          refine bodyPost_ret (results_none rfl _ _ _) rfl ?_
          exact ⟨⟨_, rfl⟩, .inr ⟨_, trivial, hJx3⟩⟩
    · have hB1 : wr.cell? ⟨Bs, 0, none⟩ = some (.slice (some ⟨b, off, none⟩) 1 cap) := (World.cell?_of_block (a := ⟨Bs, 0, none⟩) hnx.2).trans hBs
      gi_wp2
      go_end0
      exact ⟨⟨_, rfl⟩, .inl ⟨_, rfl, hJs⟩⟩
end Go.Proofs.YtibdikihgdkfnaaGreatDoor.Runs
end
section
/- A reckoner, thirtieth part: the form of a row of one number. -/
namespace Go.Proofs.YtibdikihgdkfnaaGreatDoor.Runs
open Go.RowKit Go.Shelf Go.Proofs.YtibdikihgdkfnaaGreatDoorW.PrintWords Go.Proofs.YtibdikihgdkfnaaGreatDoorW.PrintLast Go.Proofs.YtibdikihgdkfnaaGreatDoor.Ev Go.Proofs.YtibdikihgdkfnaaGreatDoor.PSto
attribute [local go_sem] Oper.semAt_some
set_option linter.unusedVariables false
set_option linter.unusedSimpArgs false
theorem each_stops (n : Nat) (hn : 1 ≤ n) (Bs b off cap : Nat) (w : World) (hBs : w.cell? ⟨Bs, 0, none⟩ = some (.slice (some ⟨b, off, none⟩) 1 cap)) (hc : w.cell? ⟨b, off, none⟩ = some (.int .i64 7)) (hb1 : Bs < w.heap.size) (hb2 : b < w.heap.size) :
    SeqStopsK Fence.wide n Tryz.prog 322 #[.pointer (some ⟨Bs, 0, none⟩)] encs (Keep b Bs) (fun xs => xs = [()]) (fun _ => True) 1 w :=
  fun l J Jx W hW hJ hJx hY h0 => each_in n hn l Bs b off cap J Jx hY W ((World.cell?_of_block (a := ⟨Bs, 0, none⟩) (hW.block Bs hb1)).trans hBs) ((World.cell?_of_block (a := ⟨b, off, none⟩) (hW.block b hb2)).trans hc) h0
    (fun s A hs => hJ s A A.drew none hs ⟨rfl, rfl, rfl, Nat.le_refl _, fun _ _ _ => rfl⟩ (fun r e => by cases e))
theorem mk_in (b off cap : Nat) (w : World) : CallsIn Fence.wide 5 Tryz.prog 307 #[.slice (some ⟨b, off, none⟩) 1 cap] w fun e w' => e = .returned (.func (.func 322) #[] #[.pointer (some ⟨w.heap.size, 0, none⟩)]) ∧ w' = w.alloc (.cells #[.slice (some ⟨b, off, none⟩) 1 cap] 368) := by
  refine callsIn_of_wp Tryz.func307 rfl trivial ?_ rfl
  simp only [Tryz.ntmps307, List.size_toArray, List.length_cons, List.length_nil, Nat.reduceAdd, Nat.reduceSub, Array.replicate_succ, Array.replicate_zero, List.push_toArray, List.append_toArray, List.nil_append, List.cons_append]
  gi_wp2
  go_ret
  exact ⟨rfl, rfl⟩
theorem zig_calls (w : World) : Calls Tryz.prog 150 #[.int .i64 7] w fun e w' => e = .returned (.int .u64 14) ∧ w' = w := by
  refine calls_of_wp Tryz.func150 rfl ?_
  simp only [Tryz.ntmps150, List.size_toArray, List.length_cons, List.length_nil, Nat.reduceAdd, Nat.reduceSub, Array.replicate_succ, Array.replicate_zero, List.push_toArray, List.append_toArray, List.nil_append, List.cons_append]
  go_wp2
  go_ret
  exact ⟨rfl, rfl⟩
set_option maxRecDepth 100000 in
set_option maxHeartbeats 4000000 in
theorem put_in (b off cap : Nat) (w : World) (hc : w.cell? ⟨b, off, none⟩ = some (.int .i64 7)) (hb : b < w.heap.size) :
    CallsIn Fence.wide 6 Tryz.prog 291 #[.slice (some ⟨b, off, none⟩) 1 cap] w fun e w' => ∃ v, e = .returned (.tuple #[v, .int .i64 0]) ∧ w'.ownsRow w.heap.size 5 1 v 2 [.int .u8 0, .int .u8 14] ∧ Below w.heap.size w w' := by
  refine callsIn_of_wp_marks Tryz.func291 rfl trivial ?_ rfl
  simp only [Tryz.ntmps291, List.size_toArray, List.length_cons, List.length_nil, Nat.reduceAdd, Nat.reduceSub, Array.replicate_succ, Array.replicate_zero, List.push_toArray, List.append_toArray, List.nil_append, List.cons_append]
  have h307 : Fence.wide.fn 307 := trivial
  gi_wp2_with (gi_at_call 307; refine (mk_in _ _ _ _).mono ?_; rintro e w' ⟨rfl, rfl⟩)
  have hbox : ((w.alloc (.cells #[.slice none 0 0] 49)).alloc (.cells #[.slice (some ⟨b, off, none⟩) 1 cap] 368)).heap[w.heap.size]? = some (.cells #[.slice none 0 0] 49) := by
    rw [alloc_heap _ _ _ (by simp)]
    exact alloc_new w _
  have hbs : ((w.alloc (.cells #[.slice none 0 0] 49)).alloc (.cells #[.slice (some ⟨b, off, none⟩) 1 cap] 368)).heap[w.heap.size + 1]? = some (.cells #[.slice (some ⟨b, off, none⟩) 1 cap] 368) := by
    have := alloc_new (w.alloc (.cells #[.slice none 0 0] 49)) (.cells #[.slice (some ⟨b, off, none⟩) 1 cap] 368)
    rw [World.size_alloc] at this
    exact this
  have hb0 : Below w.heap.size w ((w.alloc (.cells #[.slice none 0 0] 49)).alloc (.cells #[.slice (some ⟨b, off, none⟩) 1 cap] 368)) := ((Below.refl _ w).alloc (Nat.le_refl _) _).alloc (by simp) _
  have hsz : ((w.alloc (.cells #[.slice none 0 0] 49)).alloc (.cells #[.slice (some ⟨b, off, none⟩) 1 cap] 368)).heap.size = w.heap.size + 2 := by simp
  generalize ((w.alloc (.cells #[.slice none 0 0] 49)).alloc (.cells #[.slice (some ⟨b, off, none⟩) 1 cap] 368)) = W0 at hbox hbs hb0 hsz ⊢
  have hc0 : W0.cell? ⟨b, off, none⟩ = some (.int .i64 7) := (World.cell?_of_block (a := ⟨b, off, none⟩) (hb0.block b hb)).trans hc
  have hs0 : W0.cell? ⟨w.heap.size + 1, 0, none⟩ = some (.slice (some ⟨b, off, none⟩) 1 cap) := by simp [World.cell?, hbs]
  refine wpIn_rangeFunc_ownF (F := Fence.wide) rfl (by omega) (gf := 322) (lb := #[.pointer (some ⟨w.heap.size + 1, 0, none⟩)]) rfl trivial (Go.Proofs.enters_of Tryz.func322 (by kernel_rfl) rfl)
    (each_stops 5 (by omega) (w.heap.size + 1) b off cap W0 hs0 hc0 (by omega) (by omega)) (fun h k => Keep.trans h k)
    (fun W l o o' hl _ _ _ => ⟨World.putObj_heap_other (by omega), World.putObj_heap_other (by omega)⟩) (Below.refl _ _) (fun _ => rfl)
    (fun pre W => ((pre = [] ∧ W.heap[w.heap.size]? = some (.cells #[.slice none 0 0] 49)) ∨ (pre = [()] ∧ ∃ g c cur, W.heap[w.heap.size]? = some (.cells #[.slice (some ⟨g, 0, none⟩) 2 c] 49) ∧ w.heap.size + 2 ≤ g ∧ W.heap[g]? = some (.cells cur 5 (0, 0)) ∧ 2 ≤ c ∧ c ≤ maxLen ∧ cur.size = c * 1 ∧ cur.toList.take (2 * 1) = [.int .u8 0, .int .u8 14])) ∧ (Below w.heap.size w W ∧ w.heap.size + 1 < W.heap.size))
    (fun _ _ _ => False)
    (OwnFrom.and (fun s A B row hs hg hr => by
      have keep := fun (k : Nat) (o : Obj) (hk : A.heap[k]? = some o) (ho : o.isCells = true) => (grownBy_keeps_cells hg (fun r e => (hr r e).2) hk ho).trans hk
      rcases hs with ⟨h1, h2⟩ | ⟨h1, g, c, cur, h2, h3, h4, h5⟩
      · exact .inl ⟨h1, keep _ _ h2 rfl⟩
      · exact .inr ⟨h1, g, c, cur, keep _ _ h2 rfl, h3, keep _ _ h4 rfl, h5⟩) (OwnFrom.and (ownFrom_below (Nat.le_refl _) (by omega)) (fun s A B row hs hg hr => Nat.lt_of_lt_of_le hs hg.size)))
    (fun _ _ _ _ _ hs _ _ => hs)
    ⟨.inl ⟨rfl, hbox⟩, hb0, by omega⟩
    (fun x => { tmps := #[.slice (some ⟨b, off, none⟩) 1 cap, undef, .slice none 0 0, .int .i64 0, .pointer (some ⟨w.heap.size, 0, none⟩), .int .i64 7, .int .i64 1, .slice (some ⟨b, off, none⟩) 1 cap, .int .i64 1, .bool false, .slice (some ⟨b, off, none⟩) 1 cap, .func (.func 322) #[] #[.pointer (some ⟨w.heap.size + 1, 0, none⟩)], .int .i64 7, .int .i64 1, undef, undef, undef, undef, undef, undef, undef, undef, undef], defers := [] }) ?assign ?body ?done ?stop
  case assign =>
    intro l x W K hK
    unfold encs
    gi_wp2
    exact hK
  case body =>
    rintro l pre x W ⟨hI, hB, hszI⟩ hlen
    have hpre : pre = [] := List.length_eq_zero_iff.1 (by omega)
    subst hpre
    rcases hI with ⟨_, hW⟩ | ⟨h, _⟩
    · have hcell : W.cell? ⟨w.heap.size, 0, none⟩ = some (.slice none 0 0) := by simp [World.cell?, hW]
      have h44 : Fence.wide.fn 44 := trivial
      have h150 : Fence.wide.fn 150 := trivial
      have h1 := CallsIn.inRound (n := 3) l (callsIn_wide.2 (num_PutVar.calls 3 (fun _ => True) (.slice none 0 0) [] 0 [0] W W (Below.refl _ _) (Kd.R_nil _ _ _ _ _) (by rfl)))
      gi_wp2
      refine h1.mono ?_
      clear h1
      rintro e W1 ⟨v1, rfl, hR1, hB1, _⟩
      have hz := CallsIn.inRound (n := 3) l (callsIn_wide.2 (zig_calls W1))
      have h2 := CallsIn.inRound (n := 3) l (callsIn_wide.2 (num_PutVar.calls 3 _ v1 [0] 14 [0, 14] W W1 hB1 hR1 (by rfl)))
      gi_wp2
      refine hz.mono ?_
      clear hz
      rintro e W2 ⟨rfl, rfl⟩
      gi_wp2
      refine h2.mono ?_
      clear h2
      rintro e W3 ⟨v2, rfl, hR3, hB3, _⟩
      obtain ⟨inner, ⟨hl, hrow⟩, hreps⟩ := hR3.2
      obtain ⟨a0, a1, rfl⟩ : ∃ a0 a1, inner = [a0, a1] := by
        have hl : inner.length = 2 := hl
        match inner, hl with
        | [a0, a1], _ => exact ⟨a0, a1, rfl⟩
      have e0 : [a0] = [Value.int .u8 0] := hreps.2 0 0 rfl
      have e1 : [a1] = [Value.int .u8 14] := hreps.2 1 14 rfl
      simp only [List.cons.injEq, and_true] at e0 e1
      subst e0
      subst e1
      have hlt : w.heap.size < W.heap.size := (Array.getElem?_eq_some_iff.1 hW).1
      have hW3 : W3.heap[w.heap.size]? = some (.cells #[.slice none 0 0] 49) := (hB3.block _ hlt).trans hW
      have hcell3 : W3.cell? ⟨w.heap.size, 0, none⟩ = some (.slice none 0 0) := by simp [World.cell?, hW3]
      have hfr3 : W3.frozen? ⟨w.heap.size, 0, none⟩ = false := by simp [World.frozen?, hW3]
      rcases hrow with ⟨_, h0⟩ | ⟨g, c, cur, rfl, hg, hgh, hc2, hcm, hcs, htk⟩
      · simp at h0
      · have hlv : ([0, 14] : List Int).length = 2 := rfl
        rw [hlv]
        rw [hlv] at hc2 htk
        gi_wp2
        have hgne : g ≠ w.heap.size := by omega
        have hset : (W3.setCell ⟨w.heap.size, 0, none⟩ (.slice (some ⟨g, 0, none⟩) 2 c)).heap[w.heap.size]? = some (.cells #[.slice (some ⟨g, 0, none⟩) 2 c] 49) := by
          simp only [World.setCell]
          rw [Array.getElem?_modify, if_pos rfl, hW3]
          rfl
        have hoth : ∀ k, k ≠ w.heap.size → (W3.setCell ⟨w.heap.size, 0, none⟩ (.slice (some ⟨g, 0, none⟩) 2 c)).heap[k]? = W3.heap[k]? := fun k hk => Below.heap_setCell W3 ⟨w.heap.size, 0, none⟩ _ k hk
        have hK1 : KeepsOthers W W3 := ⟨hB3.size, fun k o hk _ => (hB3.block k (Array.getElem?_eq_some_iff.1 hk).1).trans hk⟩
        have hbs2 : w.heap.size + 1 < W.heap.size := hszI
        exact ⟨hK1.trans (KeepsOthers.setCell _ _ _), ⟨(hoth b (by omega)).trans (hB3.block b (by omega)), (hoth _ (by omega)).trans (hB3.block _ (by omega))⟩, .inr ⟨rfl, g, c, cur, hset, by omega, (hoth g hgne).trans hgh, hc2, hcm, hcs, htk⟩,
          (hB.trans (hB3.mono (by omega))).trans ((Below.refl w.heap.size W3).setCell (p := ⟨w.heap.size, 0, none⟩) (Nat.le_refl _) _), Nat.lt_of_lt_of_le (Nat.lt_of_lt_of_le hszI hB3.size) ((Below.refl w.heap.size W3).setCell (p := ⟨w.heap.size, 0, none⟩) (Nat.le_refl _) _).size⟩
    · cases h
  case done =>
    rintro D ys W hD rfl ⟨hI, hB, hszI⟩ hK
    rcases hI with ⟨h, _⟩ | ⟨_, g, c, cur, hW, hg, hgh, hc2, hcm, hcs, htk⟩
    · cases h
    · have hcell : W.cell? ⟨w.heap.size, 0, none⟩ = some (.slice (some ⟨g, 0, none⟩) 2 c) := by simp [World.cell?, hW]
      gi_wp2
      refine ⟨by simp, .inl ⟨_, _, rfl, run_takeDeferred hK, ?_⟩⟩
      refine ⟨.tuple #[.slice (some ⟨g, 0, none⟩) 2 c, .int .i64 0], by simp [results, Tryz.results291, go_sem], ?_⟩
      have hgD : g ≠ D := fun he => by
        rw [he, hK] at hgh
        cases hgh
      exact ⟨_, rfl, ⟨rfl, .inr ⟨g, c, cur, rfl, by omega, (World.putObj_heap_other hgD).trans hgh, hc2, hcm, hcs, htk⟩⟩, hB.trans (belowK_b (w := w) (Nat.le_refl _) W D _ _ (by omega) hK rfl rfl)⟩
  case stop =>
    rintro D c pre W _ _ h _
    exact h.elim
end Go.Proofs.YtibdikihgdkfnaaGreatDoor.Runs
end
section
/- A reckoner, thirty-first part: the table of what is told. -/
namespace Go.Proofs.YtibdikihgdkfnaaGreatDoor.Ev
open Go.RowKit
set_option linter.unusedVariables false
set_option linter.unusedSimpArgs false
def rputG : Sum := fun args m => match args with
  | [.one (.ce (.slc b o 1 lo none))] => match m.load b o 1 with
    | some [.lit (.int .i64 7)] => (m.allocRoom [.lit (.int .u8 0), .lit (.int .u8 14)] 5 1).map fun p => (.tup [.ce (.slc p.1 0 2 2 (some m.ncap)), .ce (.lit (.int .i64 0))], p.2)
    | _ => none
  | [.one (.ce (.slc b o 1 lo (some up)))] => match m.load b o 1 with
    | some [.lit (.int .i64 7)] => (m.allocRoom [.lit (.int .u8 0), .lit (.int .u8 14)] 5 1).map fun p => (.tup [.ce (.slc p.1 0 2 2 (some m.ncap)), .ce (.lit (.int .i64 0))], p.2)
    | _ => none
  | _ => none
theorem rput_one {E : Env} {B : Nat} {m m' : Mem} {w : World} {b o lo : Nat} {up : Option Nat} {u : Value} {a : Va} (hr : Rel E B m w) (hu : (Ce.slc b o 1 lo up).R E u) (hl : m.load b o 1 = some [.lit (.int .i64 7)])
    (hg : ((m.allocRoom [.lit (.int .u8 0), .lit (.int .u8 14)] 5 1).map fun p => ((.tup [.ce (.slc p.1 0 2 2 (some m.ncap)), .ce (.lit (.int .i64 0))] : Va), p.2)) = some (a, m')) :
    Calls Tryz.prog 291 #[u] w fun e w' => ∃ F v, e = .returned v ∧ To E m w F m' w' ∧ Rel F B m' w' ∧ a.R F v := by
  cases hal : m.allocRoom [.lit (.int .u8 0), .lit (.int .u8 14)] 5 1 with
  | none => rw [hal] at hg; simp at hg
  | some p =>
    obtain ⟨b1, m1⟩ := p
    rw [hal] at hg
    simp only [Option.map_some, Option.some.injEq, Prod.mk.injEq] at hg
    obtain ⟨rfl, rfl⟩ := hg
    obtain ⟨cb, co, k, hb, hk, rfl⟩ := hu
    obtain ⟨us, t1, t2, t3⟩ := hr.load hl hb
    obtain ⟨u, r, rfl, ⟨_, rfl⟩, _⟩ := t1
    have hcell := t3 0 (.int .i64 7) rfl
    simp only [Nat.add_zero] at hcell
    have hlt : cb < w.heap.size := World.block_lt_of_cell? w _ hcell
    refine ((callsIn_wide (n := 6)).1 (Runs.put_in cb (co + o) (lo + k) w hcell hlt)).mono ?_
    rintro e w' ⟨v, rfl, hrow, hbl⟩
    obtain ⟨_, hrow⟩ := hrow
    rcases hrow with ⟨_, h0⟩ | ⟨g, cap, cur, rfl, hgb, hheap, hcap, hmax, hcs, htake⟩
    · simp at h0
    · have hcs : cur.size = cap := by simpa using hcs
      have htake : cur.toList.take 2 = [.int .u8 0, .int .u8 14] := by simpa using htake
      obtain ⟨t1, rr1⟩ := hr.room (cap - 2)
      have hcapF : ∀ F, Env.Le (E.withC m.ncap (cap - 2)) F → F.capOf (some m.ncap) = some (cap - 2) := fun F hF => hF.capOf (Env.withC_at _ _ _)
      have hcur : ∀ (i : Nat) (x : Value), ([Value.int .u8 0, .int .u8 14] : List Value)[i]? = some x → cur[i]? = some x := fun i x hx => by
        rw [← htake, List.getElem?_take] at hx
        split at hx
        · rw [Array.getElem?_toList] at hx; exact hx
        · simp at hx
      obtain ⟨t2, r2, hb2⟩ := rr1.gain hbl (x := .cells ⟨[.lit (.int .u8 0), .lit (.int .u8 14)], 5, some m.ncap, 1, true⟩) hal (g := g) (co := 0) hgb (fun F hF => ⟨cur, cap - 2, (0, 0), hheap, fun _ => rfl, hcapF F hF, by
        show 0 + 2 + (cap - 2) * 1 ≤ cur.size
        omega, fun i c hc => by
          rw [Nat.zero_add]
          match i, hc with
          | 0, hc =>
            simp only [List.getElem?_cons_zero, Option.some.injEq] at hc
            subst hc
            exact ⟨_, hcur 0 _ rfl, rfl, rfl⟩
          | 1, hc =>
            simp only [List.getElem?_cons_succ, List.getElem?_cons_zero, Option.some.injEq] at hc
            subst hc
            exact ⟨_, hcur 1 _ rfl, rfl, rfl⟩
          | i + 2, hc => simp at hc⟩)
      refine ⟨_, _, rfl, t1.trans t2, r2, [.slice (some ⟨g, 0, none⟩) 2 cap, .int .i64 0], ⟨_, _, rfl, ⟨g, 0, cap - 2, hb2, hcapF _ t2.le, ?_⟩, _, _, rfl, ⟨rfl, rfl⟩, rfl⟩, rfl⟩
      have : cap = 2 + (cap - 2) := by omega
      rw [← this]
theorem rput_ok : SumOk Tryz.prog Gd 291 rputG := by
  intro E B m m' w args us a hI hg hr ha
  unfold rputG at hg
  split at hg
  · split at hg
    · rename_i hl
      obtain ⟨u, r, rfl, h1, h3⟩ := ha
      have h3 : r = [] := h3
      subst h3
      exact rput_one hr h1 hl hg
    · simp at hg
  · split at hg
    · rename_i hl
      obtain ⟨u, r, rfl, h1, h3⟩ := ha
      have h3 : r = [] := h3
      subst h3
      exact rput_one hr h1 hl hg
    · simp at hg
  · simp at hg
/-- All that is told. -/
def allS : FuncId → Option Sum := fun f => bif f == 123 then some shaG else bif f == 49 then some moreG else bif f == 50 then some sumG else bif f == 116 then some getG else bif f == 87 then some keysG else bif f == 176 then some seqG else bif f == 291 then some rputG else none
theorem e_all : (entersB 123 && entersB 49 && entersB 50 && entersB 116 && entersB 87 && entersB 176 && entersB 291) = true := by kernel_rfl
theorem gd_sha : ∀ w, Gd w → ShaT w := fun _ h => h.1
theorem allS_ok : ∀ f g, allS f = some g → SumOk Tryz.prog Gd f g ∧ entersB f = true := by
  have he := e_all
  simp only [Bool.and_eq_true] at he
  obtain ⟨⟨⟨⟨⟨⟨h1, h2⟩, h3⟩, h4⟩, h5⟩, h6⟩, h7⟩ := he
  intro f g h
  unfold allS at h
  simp only [cond_eq_ite, beq_iff_eq] at h
  split at h
  · rename_i hf; subst hf; cases h; exact ⟨sha_ok gd_sha, h1⟩
  split at h
  · rename_i hf; subst hf; cases h; exact ⟨more_ok, h2⟩
  split at h
  · rename_i hf; subst hf; cases h; exact ⟨sum_ok, h3⟩
  split at h
  · rename_i hf; subst hf; cases h; exact ⟨get_ok, h4⟩
  split at h
  · rename_i hf; subst hf; cases h; exact ⟨keys_ok, h5⟩
  split at h
  · rename_i hf; subst hf; cases h; exact ⟨seq_ok, h6⟩
  split at h
  · rename_i hf; subst hf; cases h; exact ⟨rput_ok, h7⟩
  · simp at h
end Go.Proofs.YtibdikihgdkfnaaGreatDoor.Ev
end

/- Texts of this proof, put into one: EvX. -/
import Derived.Test.YtibdikihgdkfnaaGreatDoorSC
section
/- A reckoner, twenty-fourth part: a block is taken into a digest's state (run once on unknown numbers). -/
namespace Go.Proofs.YtibdikihgdkfnaaGreatDoor.Ev
open Go.RowKit
set_option linter.unusedVariables false
set_option linter.unusedSimpArgs false
/-- The state's eight numbers in block 0, the bytes in block 1. -/
def takeX : Blk := ⟨holeL .u32 0 8, 265, none, 0, true⟩
def takeY : Blk := ⟨holeL .u8 8 64, 5, none, 0, false⟩
def takeM : Mem := ⟨.node (some (.cells takeX)) (.node (some (.cells takeY)) .nil .nil) .nil, 2, 1, 72, []⟩
def takeOk : Option (Va × Mem) → Bool
  | some (.tup [], m) => match m.get 0 with
    | some (.cells x) => x.cells.length == 8 && x.cells.all (numC .u32) && x.ty == 265 && x.wr && m.wl.all (· != 1)
    | _ => false
  | _ => false
def turnS : FuncId → Option Sum := fun f => bif f == 218 then some turnG else none
theorem e218 : entersB 218 = true := by kernel_rfl
theorem turnS_ok {Gd : World → Prop} (hG : ∀ w, Gd w → ShaT w) : ∀ f g, turnS f = some g → SumOk Tryz.prog Gd f g ∧ entersB f = true := by
  intro f g h
  unfold turnS at h
  simp only [cond_eq_ite, beq_iff_eq] at h
  split at h
  · rename_i hf
    subst hf
    simp only [Option.some.injEq] at h
    subst h
    exact ⟨turn_ok hG, e218⟩
  · simp at h
set_option maxHeartbeats 0 in
theorem take_run : takeOk (callF turnS 170 [ceV (.ptr 0 0), ceV (.slc 1 0 64 64 (some 0))] takeM) = true := by kernel_rfl
end Go.Proofs.YtibdikihgdkfnaaGreatDoor.Ev
end

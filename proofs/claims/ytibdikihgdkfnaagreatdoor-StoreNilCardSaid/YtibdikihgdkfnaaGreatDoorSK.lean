/- Texts of this proof, put into one: EvX. -/
import Derived.Test.YtibdikihgdkfnaaGreatDoorSD
section
/- A reckoner, twenty-fourth part: a block is taken into a digest's state (run once on unknown numbers). -/
namespace Go.Proofs.YtibdikihgdkfnaaGreatDoor.Ev
open Go.RowKit
set_option linter.unusedVariables false
set_option linter.unusedSimpArgs false
/-- The state's eight numbers in block 0, the bytes in block 1. -/
def takeX : Blk := ⟨holeL .u32 0 8, 265, none, 0, true⟩
def takeY : Blk := ⟨holeL .u8 8 64, 5, none, 0, false⟩
def takeM : Mem := ⟨.node (some (.cells takeX)) (.node (some (.cells takeY)) .nil .nil) .nil, 2, 1, 72, []⟩
def takeOk : Option (Va × Mem) → Bool
  | some (.tup [], m) => match m.get 0 with
    | some (.cells x) => x.cells.length == 8 && x.cells.all (numC .u32) && x.ty == 265 && x.wr && m.wl.all (· != 1)
    | _ => false
  | _ => false
set_option maxHeartbeats 0 in
theorem take_run : takeOk (callF wordS 170 [ceV (.ptr 0 0), ceV (.slc 1 0 64 64 (some 0))] takeM) = true := by kernel_rfl
end Go.Proofs.YtibdikihgdkfnaaGreatDoor.Ev
end

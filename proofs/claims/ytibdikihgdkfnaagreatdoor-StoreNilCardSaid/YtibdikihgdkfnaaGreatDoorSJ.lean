/- Texts of this proof, put into one: EvFb. -/
import Derived.Test.YtibdikihgdkfnaaGreatDoorRows
import Derived.SevenTiedAt
import Derived.KernelRfl
section
/- The card's closed facts, each by a kernel check of its own. -/
namespace Go.Proofs.YtibdikihgdkfnaaGreatDoor.Facts
theorem c1 : Rows.storeNilRow.wfByText (OpenSpec.ofChange Rows.storeNilSpec) = true := by kernel_rfl
theorem c2 : true = Tryz.prog.looks [] := by kernel_rfl
theorem c3 : Tryz.prog.wantsStandIn 29 = false := by kernel_rfl
theorem c4 : false = Rows.storeNilRow.goesBy Tryz.prog := by kernel_rfl
theorem c5 : Tryz.prog.funcNamed "estreat/estreatlaw27.StoreNil" = some 3 := by kernel_rfl
end Go.Proofs.YtibdikihgdkfnaaGreatDoor.Facts
end

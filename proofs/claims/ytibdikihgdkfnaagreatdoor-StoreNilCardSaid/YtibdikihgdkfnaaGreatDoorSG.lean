/- Texts of this proof, put into one: EvAF. -/
import Derived.Test.YtibdikihgdkfnaaGreatDoorSF
section
/- A reckoner, thirty-second part: the law is run, whatever its argument. -/
namespace Go.Proofs.YtibdikihgdkfnaaGreatDoor.Ev
set_option linter.unusedVariables false
/-- The argument: a command's ten cells. -/
def cmdC : List Ce := [.any 0, .any 1, .any 2, .any 3, .any 4, .any 5, .any 6, .any 7, .any 8, .any 9]
def isTrue : Option (Va × Mem) → Bool
  | some (.one (.ce (.lit (.bool b))), _) => b
  | _ => false
set_option maxHeartbeats 0 in
theorem nil_run : isTrue (callF allS 3 [.one (.agg cmdC)] (bare 10)) = true := by kernel_rfl
end Go.Proofs.YtibdikihgdkfnaaGreatDoor.Ev
end

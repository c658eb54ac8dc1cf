/-
  DERIVED. GIVEN WITH THE SEED: THE CARDS: each row of YtibdikihgdkfnaaGreatDoorRows.lean that lists a variable, with what it lists TIED to the program's text (the seventh form; the later family's looks); each row that meets fmt, with fmt's text TOLD by the authors' own Lean function (tested against real Go, not proved from fmt's source: count such statements apart). THE CARD IS WHAT COUNTS. Prove the row's statement (the work); the ties are given (YtibdikihgdkfnaaGreatDoorTie.lean); close each card by the builder's one call (the guide's Derived/Test/ToyasCard.lean, 'card_holds'). Laid BY PROGRAM, IN A SANDBOX (cutbox-door.mjs). By AI agents, Wed Nov 11 2026. No macro, syntax, notation, axiom, sorry.
-/
import Derived.Test.YtibdikihgdkfnaaGreatDoorRows
import GoSem.ClaimSeven
namespace Go.Proofs.YtibdikihgdkfnaaGreatDoor
namespace Rows

/-- THE TIED CARD OF 'estreatlaw27.StoreNil'. -/
def storeNilCard : Claim7 := { stood := { row := storeNilRow, standIns := [], harness := (true, "4e876f884aa4a5e276fa81eab852b925d938cf6b43266395717a8040f7f47ca8"), looks := true }, kinds := [], alts := [], laidByText := true, laidKinds := [.data, .data, .data, .handle, .data, .data], laidTests := true, laidLooks := .later }
def StoreNilCardSaid : Prop := Claim7.holds Tryz.pinned (.plain (OpenSpec.ofChange storeNilSpec)) storeNilCard

/-- THE SECOND FORM's CARD OF 'estreatlaw27.StoreNil'. -/
def storeNilUptoCard : Claim7 := { stood := { row := storeNilUptoRow, standIns := [], harness := (true, "4e876f884aa4a5e276fa81eab852b925d938cf6b43266395717a8040f7f47ca8"), looks := true }, kinds := [], alts := [], laidByText := true, laidKinds := [.data, .data, .data, .handle, .data, .data], laidTests := true, laidLooks := .later }
def StoreNilUptoCardSaid : Prop := Claim7.holds Tryz.pinned (.plain (OpenSpec.upto storeNilSpec)) storeNilUptoCard
end Rows
end Go.Proofs.YtibdikihgdkfnaaGreatDoor

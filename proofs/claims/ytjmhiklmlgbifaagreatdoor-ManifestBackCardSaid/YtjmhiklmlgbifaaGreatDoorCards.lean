/-
  DERIVED. GIVEN WITH THE SEED: THE CARDS: each row of YtjmhiklmlgbifaaGreatDoorRows.lean that lists a variable, with what it lists TIED to the program's text (the seventh form; the later family's looks); each row that meets fmt, with fmt's text TOLD by the authors' own Lean function (tested against real Go, not proved from fmt's source: count such statements apart). THE CARD IS WHAT COUNTS. Prove the row's statement (the work); the ties are given (YtjmhiklmlgbifaaGreatDoorTie.lean); close each card by the builder's one call (the guide's Derived/Test/ToyasCard.lean, 'card_holds'). Laid BY PROGRAM, IN A SANDBOX (cutbox-door.mjs). By AI agents, Wed Nov 11 2026. No macro, syntax, notation, axiom, sorry.
-/
import Derived.Test.YtjmhiklmlgbifaaGreatDoorRows
import GoSem.ClaimSeven
namespace Go.Proofs.YtjmhiklmlgbifaaGreatDoor
namespace Rows

/-- THE TIED CARD OF 'estreatlaw26.ManifestPuts'. -/
def manifestPutsCard : Claim7 := { stood := { row := manifestPutsRow, standIns := [], harness := (true, "29190c84d75523b394cb57f5ecebdcb6b6fb6f6993a1afde6c97356ee2811d83"), looks := true }, kinds := [], alts := [], laidByText := true, laidKinds := [.data, .data, .data, .handle], laidTests := true, laidLooks := .later }
def ManifestPutsCardSaid : Prop := Claim7.holds Tryz.pinned (.plain (OpenSpec.ofChange manifestPutsSpec)) manifestPutsCard

/-- THE TIED CARD OF 'estreatlaw26.ManifestTakes'. -/
def manifestTakesCard : Claim7 := { stood := { row := manifestTakesRow, standIns := [], harness := (true, "29190c84d75523b394cb57f5ecebdcb6b6fb6f6993a1afde6c97356ee2811d83"), looks := true }, kinds := [], alts := [], laidByText := true, laidKinds := [.data, .data, .data, .handle], laidTests := true, laidLooks := .later }
def ManifestTakesCardSaid : Prop := Claim7.holds Tryz.pinned (.plain (OpenSpec.ofChange manifestTakesSpec)) manifestTakesCard

/-- THE TIED CARD OF 'estreatlaw26.ManifestBack'. -/
def manifestBackCard : Claim7 := { stood := { row := manifestBackRow, standIns := [], harness := (true, "29190c84d75523b394cb57f5ecebdcb6b6fb6f6993a1afde6c97356ee2811d83"), looks := true }, kinds := [], alts := [], laidByText := true, laidKinds := [.data, .data, .data, .handle], laidTests := true, laidLooks := .later }
def ManifestBackCardSaid : Prop := Claim7.holds Tryz.pinned (.plain (OpenSpec.ofChange manifestBackSpec)) manifestBackCard

/-- THE TIED CARD OF 'estreatlaw26.ManifestNames'. -/
def manifestNamesCard : Claim7 := { stood := { row := manifestNamesRow, standIns := [], harness := (true, "29190c84d75523b394cb57f5ecebdcb6b6fb6f6993a1afde6c97356ee2811d83"), looks := true }, kinds := [], alts := [], laidByText := true, laidKinds := [.data, .data, .data, .handle], laidTests := true, laidLooks := .later }
def ManifestNamesCardSaid : Prop := Claim7.holds Tryz.pinned (.plain (OpenSpec.ofChange manifestNamesSpec)) manifestNamesCard

/-- THE TIED CARD OF 'estreatlaw26.ManifestChunks'. -/
def manifestChunksCard : Claim7 := { stood := { row := manifestChunksRow, standIns := [], harness := (true, "29190c84d75523b394cb57f5ecebdcb6b6fb6f6993a1afde6c97356ee2811d83"), looks := true }, kinds := [], alts := [], laidByText := true, laidKinds := [.data, .data, .data, .handle], laidTests := true, laidLooks := .later }
def ManifestChunksCardSaid : Prop := Claim7.holds Tryz.pinned (.plain (OpenSpec.ofChange manifestChunksSpec)) manifestChunksCard

/-- THE SECOND FORM's CARD OF 'estreatlaw26.ManifestPuts'. -/
def manifestPutsUptoCard : Claim7 := { stood := { row := manifestPutsUptoRow, standIns := [], harness := (true, "29190c84d75523b394cb57f5ecebdcb6b6fb6f6993a1afde6c97356ee2811d83"), looks := true }, kinds := [], alts := [], laidByText := true, laidKinds := [.data, .data, .data, .handle], laidTests := true, laidLooks := .later }
def ManifestPutsUptoCardSaid : Prop := Claim7.holds Tryz.pinned (.plain (OpenSpec.upto manifestPutsSpec)) manifestPutsUptoCard

/-- THE SECOND FORM's CARD OF 'estreatlaw26.ManifestTakes'. -/
def manifestTakesUptoCard : Claim7 := { stood := { row := manifestTakesUptoRow, standIns := [], harness := (true, "29190c84d75523b394cb57f5ecebdcb6b6fb6f6993a1afde6c97356ee2811d83"), looks := true }, kinds := [], alts := [], laidByText := true, laidKinds := [.data, .data, .data, .handle], laidTests := true, laidLooks := .later }
def ManifestTakesUptoCardSaid : Prop := Claim7.holds Tryz.pinned (.plain (OpenSpec.upto manifestTakesSpec)) manifestTakesUptoCard

/-- THE SECOND FORM's CARD OF 'estreatlaw26.ManifestBack'. -/
def manifestBackUptoCard : Claim7 := { stood := { row := manifestBackUptoRow, standIns := [], harness := (true, "29190c84d75523b394cb57f5ecebdcb6b6fb6f6993a1afde6c97356ee2811d83"), looks := true }, kinds := [], alts := [], laidByText := true, laidKinds := [.data, .data, .data, .handle], laidTests := true, laidLooks := .later }
def ManifestBackUptoCardSaid : Prop := Claim7.holds Tryz.pinned (.plain (OpenSpec.upto manifestBackSpec)) manifestBackUptoCard

/-- THE SECOND FORM's CARD OF 'estreatlaw26.ManifestNames'. -/
def manifestNamesUptoCard : Claim7 := { stood := { row := manifestNamesUptoRow, standIns := [], harness := (true, "29190c84d75523b394cb57f5ecebdcb6b6fb6f6993a1afde6c97356ee2811d83"), looks := true }, kinds := [], alts := [], laidByText := true, laidKinds := [.data, .data, .data, .handle], laidTests := true, laidLooks := .later }
def ManifestNamesUptoCardSaid : Prop := Claim7.holds Tryz.pinned (.plain (OpenSpec.upto manifestNamesSpec)) manifestNamesUptoCard

/-- THE SECOND FORM's CARD OF 'estreatlaw26.ManifestChunks'. -/
def manifestChunksUptoCard : Claim7 := { stood := { row := manifestChunksUptoRow, standIns := [], harness := (true, "29190c84d75523b394cb57f5ecebdcb6b6fb6f6993a1afde6c97356ee2811d83"), looks := true }, kinds := [], alts := [], laidByText := true, laidKinds := [.data, .data, .data, .handle], laidTests := true, laidLooks := .later }
def ManifestChunksUptoCardSaid : Prop := Claim7.holds Tryz.pinned (.plain (OpenSpec.upto manifestChunksSpec)) manifestChunksUptoCard
end Rows
end Go.Proofs.YtjmhiklmlgbifaaGreatDoor

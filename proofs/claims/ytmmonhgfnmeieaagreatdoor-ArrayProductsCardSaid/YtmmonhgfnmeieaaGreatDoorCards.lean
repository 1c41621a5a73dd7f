/-
  DERIVED. GIVEN WITH THE SEED: THE CARDS: each row of YtmmonhgfnmeieaaGreatDoorRows.lean that lists a variable, with what it lists TIED to the program's text (the seventh form; the later family's looks); each row that meets fmt, with fmt's text TOLD by the authors' own Lean function (tested against real Go, not proved from fmt's source: count such statements apart). THE CARD IS WHAT COUNTS. Prove the row's statement (the work); the ties are given (YtmmonhgfnmeieaaGreatDoorTie.lean); close each card by the builder's one call (the guide's Derived/Test/ToyasCard.lean, 'card_holds'). Laid BY PROGRAM, IN A SANDBOX (cutbox-door.mjs). By AI agents, Wed Nov 11 2026. No macro, syntax, notation, axiom, sorry.
-/
import Derived.Test.YtmmonhgfnmeieaaGreatDoorRows
import GoSem.ClaimSeven
namespace Go.Proofs.YtmmonhgfnmeieaaGreatDoor
namespace Rows

/-- THE TIED CARD OF 'tapewrightlaw06.ArrayBack'. -/
def arrayBackCard : Claim7 := { stood := { row := arrayBackRow, standIns := [], harness := (true, "1d1c9429003012e56815b9bbf8efc713e3dbd7c200fbf0f3c70e2b6f10b7d630"), looks := true }, kinds := [], alts := [], laidByText := true, laidKinds := [.handle, .sentinel, .sentinel], laidTests := true, laidLooks := .later }
def ArrayBackCardSaid : Prop := Claim7.holds Tryz.pinned (.plain (OpenSpec.ofChange arrayBackSpec)) arrayBackCard

/-- THE TIED CARD OF 'tapewrightlaw06.ArrayProducts'. -/
def arrayProductsCard : Claim7 := { stood := { row := arrayProductsRow, standIns := [], harness := (true, "1d1c9429003012e56815b9bbf8efc713e3dbd7c200fbf0f3c70e2b6f10b7d630"), looks := true }, kinds := [], alts := [], laidByText := true, laidKinds := [.handle, .sentinel, .sentinel], laidTests := true, laidLooks := .later }
def ArrayProductsCardSaid : Prop := Claim7.holds Tryz.pinned (.plain (OpenSpec.ofChange arrayProductsSpec)) arrayProductsCard

/-- THE TIED CARD OF 'tapewrightlaw06.ArrayTurns'. -/
def arrayTurnsCard : Claim7 := { stood := { row := arrayTurnsRow, standIns := [], harness := (true, "1d1c9429003012e56815b9bbf8efc713e3dbd7c200fbf0f3c70e2b6f10b7d630"), looks := true }, kinds := [], alts := [], laidByText := true, laidKinds := [.handle, .sentinel, .sentinel], laidTests := true, laidLooks := .later }
def ArrayTurnsCardSaid : Prop := Claim7.holds Tryz.pinned (.plain (OpenSpec.ofChange arrayTurnsSpec)) arrayTurnsCard

/-- THE TIED CARD OF 'tapewrightlaw06.ArrayUnits'. -/
def arrayUnitsCard : Claim7 := { stood := { row := arrayUnitsRow, standIns := [], harness := (true, "1d1c9429003012e56815b9bbf8efc713e3dbd7c200fbf0f3c70e2b6f10b7d630"), looks := true }, kinds := [], alts := [], laidByText := true, laidKinds := [.handle, .sentinel, .sentinel], laidTests := true, laidLooks := .later }
def ArrayUnitsCardSaid : Prop := Claim7.holds Tryz.pinned (.plain (OpenSpec.ofChange arrayUnitsSpec)) arrayUnitsCard

/-- THE TIED CARD OF 'tapewrightlaw06.ArrayRows'. -/
def arrayRowsCard : Claim7 := { stood := { row := arrayRowsRow, standIns := [], harness := (true, "1d1c9429003012e56815b9bbf8efc713e3dbd7c200fbf0f3c70e2b6f10b7d630"), looks := true }, kinds := [], alts := [], laidByText := true, laidKinds := [.handle, .sentinel, .sentinel], laidTests := true, laidLooks := .later }
def ArrayRowsCardSaid : Prop := Claim7.holds Tryz.pinned (.plain (OpenSpec.ofChange arrayRowsSpec)) arrayRowsCard

/-- THE TIED CARD OF 'tapewrightlaw06.ArrayTotals'. -/
def arrayTotalsCard : Claim7 := { stood := { row := arrayTotalsRow, standIns := [], harness := (true, "1d1c9429003012e56815b9bbf8efc713e3dbd7c200fbf0f3c70e2b6f10b7d630"), looks := true }, kinds := [], alts := [], laidByText := true, laidKinds := [.handle, .sentinel, .sentinel], laidTests := true, laidLooks := .later }
def ArrayTotalsCardSaid : Prop := Claim7.holds Tryz.pinned (.plain (OpenSpec.ofChange arrayTotalsSpec)) arrayTotalsCard

/-- THE TIED CARD OF 'tapewrightlaw06.ArrayLinear'. -/
def arrayLinearCard : Claim7 := { stood := { row := arrayLinearRow, standIns := [], harness := (true, "1d1c9429003012e56815b9bbf8efc713e3dbd7c200fbf0f3c70e2b6f10b7d630"), looks := true }, kinds := [], alts := [], laidByText := true, laidKinds := [.handle, .sentinel, .sentinel], laidTests := true, laidLooks := .later }
def ArrayLinearCardSaid : Prop := Claim7.holds Tryz.pinned (.plain (OpenSpec.ofChange arrayLinearSpec)) arrayLinearCard

/-- THE TIED CARD OF 'tapewrightlaw06.ArrayScalars'. -/
def arrayScalarsCard : Claim7 := { stood := { row := arrayScalarsRow, standIns := [], harness := (true, "1d1c9429003012e56815b9bbf8efc713e3dbd7c200fbf0f3c70e2b6f10b7d630"), looks := true }, kinds := [], alts := [], laidByText := true, laidKinds := [.handle, .sentinel, .sentinel], laidTests := true, laidLooks := .later }
def ArrayScalarsCardSaid : Prop := Claim7.holds Tryz.pinned (.plain (OpenSpec.ofChange arrayScalarsSpec)) arrayScalarsCard

/-- THE TIED CARD OF 'tapewrightlaw06.ArrayShapes'. -/
def arrayShapesCard : Claim7 := { stood := { row := arrayShapesRow, standIns := [], harness := (true, "1d1c9429003012e56815b9bbf8efc713e3dbd7c200fbf0f3c70e2b6f10b7d630"), looks := true }, kinds := [], alts := [], laidByText := true, laidKinds := [.handle, .sentinel, .sentinel], laidTests := true, laidLooks := .later }
def ArrayShapesCardSaid : Prop := Claim7.holds Tryz.pinned (.plain (OpenSpec.ofChange arrayShapesSpec)) arrayShapesCard

/-- THE SECOND FORM's CARD OF 'tapewrightlaw06.ArrayBack'. -/
def arrayBackUptoCard : Claim7 := { stood := { row := arrayBackUptoRow, standIns := [], harness := (true, "1d1c9429003012e56815b9bbf8efc713e3dbd7c200fbf0f3c70e2b6f10b7d630"), looks := true }, kinds := [], alts := [], laidByText := true, laidKinds := [.handle, .sentinel, .sentinel], laidTests := true, laidLooks := .later }
def ArrayBackUptoCardSaid : Prop := Claim7.holds Tryz.pinned (.plain (OpenSpec.upto arrayBackSpec)) arrayBackUptoCard

/-- THE SECOND FORM's CARD OF 'tapewrightlaw06.ArrayProducts'. -/
def arrayProductsUptoCard : Claim7 := { stood := { row := arrayProductsUptoRow, standIns := [], harness := (true, "1d1c9429003012e56815b9bbf8efc713e3dbd7c200fbf0f3c70e2b6f10b7d630"), looks := true }, kinds := [], alts := [], laidByText := true, laidKinds := [.handle, .sentinel, .sentinel], laidTests := true, laidLooks := .later }
def ArrayProductsUptoCardSaid : Prop := Claim7.holds Tryz.pinned (.plain (OpenSpec.upto arrayProductsSpec)) arrayProductsUptoCard

/-- THE SECOND FORM's CARD OF 'tapewrightlaw06.ArrayTurns'. -/
def arrayTurnsUptoCard : Claim7 := { stood := { row := arrayTurnsUptoRow, standIns := [], harness := (true, "1d1c9429003012e56815b9bbf8efc713e3dbd7c200fbf0f3c70e2b6f10b7d630"), looks := true }, kinds := [], alts := [], laidByText := true, laidKinds := [.handle, .sentinel, .sentinel], laidTests := true, laidLooks := .later }
def ArrayTurnsUptoCardSaid : Prop := Claim7.holds Tryz.pinned (.plain (OpenSpec.upto arrayTurnsSpec)) arrayTurnsUptoCard

/-- THE SECOND FORM's CARD OF 'tapewrightlaw06.ArrayUnits'. -/
def arrayUnitsUptoCard : Claim7 := { stood := { row := arrayUnitsUptoRow, standIns := [], harness := (true, "1d1c9429003012e56815b9bbf8efc713e3dbd7c200fbf0f3c70e2b6f10b7d630"), looks := true }, kinds := [], alts := [], laidByText := true, laidKinds := [.handle, .sentinel, .sentinel], laidTests := true, laidLooks := .later }
def ArrayUnitsUptoCardSaid : Prop := Claim7.holds Tryz.pinned (.plain (OpenSpec.upto arrayUnitsSpec)) arrayUnitsUptoCard

/-- THE SECOND FORM's CARD OF 'tapewrightlaw06.ArrayRows'. -/
def arrayRowsUptoCard : Claim7 := { stood := { row := arrayRowsUptoRow, standIns := [], harness := (true, "1d1c9429003012e56815b9bbf8efc713e3dbd7c200fbf0f3c70e2b6f10b7d630"), looks := true }, kinds := [], alts := [], laidByText := true, laidKinds := [.handle, .sentinel, .sentinel], laidTests := true, laidLooks := .later }
def ArrayRowsUptoCardSaid : Prop := Claim7.holds Tryz.pinned (.plain (OpenSpec.upto arrayRowsSpec)) arrayRowsUptoCard

/-- THE SECOND FORM's CARD OF 'tapewrightlaw06.ArrayTotals'. -/
def arrayTotalsUptoCard : Claim7 := { stood := { row := arrayTotalsUptoRow, standIns := [], harness := (true, "1d1c9429003012e56815b9bbf8efc713e3dbd7c200fbf0f3c70e2b6f10b7d630"), looks := true }, kinds := [], alts := [], laidByText := true, laidKinds := [.handle, .sentinel, .sentinel], laidTests := true, laidLooks := .later }
def ArrayTotalsUptoCardSaid : Prop := Claim7.holds Tryz.pinned (.plain (OpenSpec.upto arrayTotalsSpec)) arrayTotalsUptoCard

/-- THE SECOND FORM's CARD OF 'tapewrightlaw06.ArrayLinear'. -/
def arrayLinearUptoCard : Claim7 := { stood := { row := arrayLinearUptoRow, standIns := [], harness := (true, "1d1c9429003012e56815b9bbf8efc713e3dbd7c200fbf0f3c70e2b6f10b7d630"), looks := true }, kinds := [], alts := [], laidByText := true, laidKinds := [.handle, .sentinel, .sentinel], laidTests := true, laidLooks := .later }
def ArrayLinearUptoCardSaid : Prop := Claim7.holds Tryz.pinned (.plain (OpenSpec.upto arrayLinearSpec)) arrayLinearUptoCard

/-- THE SECOND FORM's CARD OF 'tapewrightlaw06.ArrayScalars'. -/
def arrayScalarsUptoCard : Claim7 := { stood := { row := arrayScalarsUptoRow, standIns := [], harness := (true, "1d1c9429003012e56815b9bbf8efc713e3dbd7c200fbf0f3c70e2b6f10b7d630"), looks := true }, kinds := [], alts := [], laidByText := true, laidKinds := [.handle, .sentinel, .sentinel], laidTests := true, laidLooks := .later }
def ArrayScalarsUptoCardSaid : Prop := Claim7.holds Tryz.pinned (.plain (OpenSpec.upto arrayScalarsSpec)) arrayScalarsUptoCard

/-- THE SECOND FORM's CARD OF 'tapewrightlaw06.ArrayShapes'. -/
def arrayShapesUptoCard : Claim7 := { stood := { row := arrayShapesUptoRow, standIns := [], harness := (true, "1d1c9429003012e56815b9bbf8efc713e3dbd7c200fbf0f3c70e2b6f10b7d630"), looks := true }, kinds := [], alts := [], laidByText := true, laidKinds := [.handle, .sentinel, .sentinel], laidTests := true, laidLooks := .later }
def ArrayShapesUptoCardSaid : Prop := Claim7.holds Tryz.pinned (.plain (OpenSpec.upto arrayShapesSpec)) arrayShapesUptoCard
end Rows
end Go.Proofs.YtmmonhgfnmeieaaGreatDoor

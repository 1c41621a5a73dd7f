/-
  DERIVED. GIVEN WITH THE SEED: THE CARDS: each row of YtndkjpkgllmbnaaGreatDoorRows.lean that lists a variable, with what it lists TIED to the program's text (the seventh form; the later family's looks); each row that meets fmt, with fmt's text TOLD by the authors' own Lean function (tested against real Go, not proved from fmt's source: count such statements apart). THE CARD IS WHAT COUNTS. Prove the row's statement (the work); the ties are given (YtndkjpkgllmbnaaGreatDoorTie.lean); close each card by the builder's one call (the guide's Derived/Test/ToyasCard.lean, 'card_holds'). Laid BY PROGRAM, IN A SANDBOX (cutbox-door.mjs). By AI agents, Wed Nov 11 2026. No macro, syntax, notation, axiom, sorry.
-/
import Derived.Test.YtndkjpkgllmbnaaGreatDoorRows
import GoSem.ClaimSeven
namespace Go.Proofs.YtndkjpkgllmbnaaGreatDoor
namespace Rows

/-- THE TIED CARD OF 'tapewrightlaw07.KinkLaws'. -/
def kinkLawsCard : Claim7 := { stood := { row := kinkLawsRow, standIns := [], harness := (true, "3ae579ff5f591b7206c348ee98b6113d5fecf13b5455fb563c0885e33e3f9b27"), looks := true }, kinds := [], alts := [], laidByText := true, laidKinds := [.handle, .sentinel, .sentinel], laidTests := true, laidLooks := .later }
def KinkLawsCardSaid : Prop := Claim7.holds Tryz.pinned (.plain (OpenSpec.ofChange kinkLawsSpec)) kinkLawsCard

/-- THE TIED CARD OF 'tapewrightlaw07.KinkSlopes'. -/
def kinkSlopesCard : Claim7 := { stood := { row := kinkSlopesRow, standIns := [], harness := (true, "3ae579ff5f591b7206c348ee98b6113d5fecf13b5455fb563c0885e33e3f9b27"), looks := true }, kinds := [], alts := [], laidByText := true, laidKinds := [.handle, .sentinel, .sentinel], laidTests := true, laidLooks := .later }
def KinkSlopesCardSaid : Prop := Claim7.holds Tryz.pinned (.plain (OpenSpec.ofChange kinkSlopesSpec)) kinkSlopesCard

/-- THE TIED CARD OF 'tapewrightlaw07.KinkEach'. -/
def kinkEachCard : Claim7 := { stood := { row := kinkEachRow, standIns := [], harness := (true, "3ae579ff5f591b7206c348ee98b6113d5fecf13b5455fb563c0885e33e3f9b27"), looks := true }, kinds := [], alts := [], laidByText := true, laidKinds := [.handle, .sentinel, .sentinel], laidTests := true, laidLooks := .later }
def KinkEachCardSaid : Prop := Claim7.holds Tryz.pinned (.plain (OpenSpec.ofChange kinkEachSpec)) kinkEachCard

/-- THE TIED CARD OF 'tapewrightlaw07.KinkScale'. -/
def kinkScaleCard : Claim7 := { stood := { row := kinkScaleRow, standIns := [], harness := (true, "3ae579ff5f591b7206c348ee98b6113d5fecf13b5455fb563c0885e33e3f9b27"), looks := true }, kinds := [], alts := [], laidByText := true, laidKinds := [.handle, .sentinel, .sentinel], laidTests := true, laidLooks := .later }
def KinkScaleCardSaid : Prop := Claim7.holds Tryz.pinned (.plain (OpenSpec.ofChange kinkScaleSpec)) kinkScaleCard

/-- THE TIED CARD OF 'tapewrightlaw07.KinkFlat'. -/
def kinkFlatCard : Claim7 := { stood := { row := kinkFlatRow, standIns := [], harness := (true, "3ae579ff5f591b7206c348ee98b6113d5fecf13b5455fb563c0885e33e3f9b27"), looks := true }, kinds := [], alts := [], laidByText := true, laidKinds := [.handle, .sentinel, .sentinel], laidTests := true, laidLooks := .later }
def KinkFlatCardSaid : Prop := Claim7.holds Tryz.pinned (.plain (OpenSpec.ofChange kinkFlatSpec)) kinkFlatCard

/-- THE TIED CARD OF 'tapewrightlaw07.KinkTwo'. -/
def kinkTwoCard : Claim7 := { stood := { row := kinkTwoRow, standIns := [], harness := (true, "3ae579ff5f591b7206c348ee98b6113d5fecf13b5455fb563c0885e33e3f9b27"), looks := true }, kinds := [], alts := [], laidByText := true, laidKinds := [.handle, .sentinel, .sentinel], laidTests := true, laidLooks := .later }
def KinkTwoCardSaid : Prop := Claim7.holds Tryz.pinned (.plain (OpenSpec.ofChange kinkTwoSpec)) kinkTwoCard

/-- THE TIED CARD OF 'tapewrightlaw07.KinkSigns'. -/
def kinkSignsCard : Claim7 := { stood := { row := kinkSignsRow, standIns := [], harness := (true, "3ae579ff5f591b7206c348ee98b6113d5fecf13b5455fb563c0885e33e3f9b27"), looks := true }, kinds := [], alts := [], laidByText := true, laidKinds := [.handle, .sentinel, .sentinel], laidTests := true, laidLooks := .later }
def KinkSignsCardSaid : Prop := Claim7.holds Tryz.pinned (.plain (OpenSpec.ofChange kinkSignsSpec)) kinkSignsCard

/-- THE TIED CARD OF 'tapewrightlaw07.KinkOrder'. -/
def kinkOrderCard : Claim7 := { stood := { row := kinkOrderRow, standIns := [], harness := (true, "3ae579ff5f591b7206c348ee98b6113d5fecf13b5455fb563c0885e33e3f9b27"), looks := true }, kinds := [], alts := [], laidByText := true, laidKinds := [.handle, .sentinel, .sentinel], laidTests := true, laidLooks := .later }
def KinkOrderCardSaid : Prop := Claim7.holds Tryz.pinned (.plain (OpenSpec.ofChange kinkOrderSpec)) kinkOrderCard

/-- THE SECOND FORM's CARD OF 'tapewrightlaw07.KinkLaws'. -/
def kinkLawsUptoCard : Claim7 := { stood := { row := kinkLawsUptoRow, standIns := [], harness := (true, "3ae579ff5f591b7206c348ee98b6113d5fecf13b5455fb563c0885e33e3f9b27"), looks := true }, kinds := [], alts := [], laidByText := true, laidKinds := [.handle, .sentinel, .sentinel], laidTests := true, laidLooks := .later }
def KinkLawsUptoCardSaid : Prop := Claim7.holds Tryz.pinned (.plain (OpenSpec.upto kinkLawsSpec)) kinkLawsUptoCard

/-- THE SECOND FORM's CARD OF 'tapewrightlaw07.KinkSlopes'. -/
def kinkSlopesUptoCard : Claim7 := { stood := { row := kinkSlopesUptoRow, standIns := [], harness := (true, "3ae579ff5f591b7206c348ee98b6113d5fecf13b5455fb563c0885e33e3f9b27"), looks := true }, kinds := [], alts := [], laidByText := true, laidKinds := [.handle, .sentinel, .sentinel], laidTests := true, laidLooks := .later }
def KinkSlopesUptoCardSaid : Prop := Claim7.holds Tryz.pinned (.plain (OpenSpec.upto kinkSlopesSpec)) kinkSlopesUptoCard

/-- THE SECOND FORM's CARD OF 'tapewrightlaw07.KinkEach'. -/
def kinkEachUptoCard : Claim7 := { stood := { row := kinkEachUptoRow, standIns := [], harness := (true, "3ae579ff5f591b7206c348ee98b6113d5fecf13b5455fb563c0885e33e3f9b27"), looks := true }, kinds := [], alts := [], laidByText := true, laidKinds := [.handle, .sentinel, .sentinel], laidTests := true, laidLooks := .later }
def KinkEachUptoCardSaid : Prop := Claim7.holds Tryz.pinned (.plain (OpenSpec.upto kinkEachSpec)) kinkEachUptoCard

/-- THE SECOND FORM's CARD OF 'tapewrightlaw07.KinkScale'. -/
def kinkScaleUptoCard : Claim7 := { stood := { row := kinkScaleUptoRow, standIns := [], harness := (true, "3ae579ff5f591b7206c348ee98b6113d5fecf13b5455fb563c0885e33e3f9b27"), looks := true }, kinds := [], alts := [], laidByText := true, laidKinds := [.handle, .sentinel, .sentinel], laidTests := true, laidLooks := .later }
def KinkScaleUptoCardSaid : Prop := Claim7.holds Tryz.pinned (.plain (OpenSpec.upto kinkScaleSpec)) kinkScaleUptoCard

/-- THE SECOND FORM's CARD OF 'tapewrightlaw07.KinkFlat'. -/
def kinkFlatUptoCard : Claim7 := { stood := { row := kinkFlatUptoRow, standIns := [], harness := (true, "3ae579ff5f591b7206c348ee98b6113d5fecf13b5455fb563c0885e33e3f9b27"), looks := true }, kinds := [], alts := [], laidByText := true, laidKinds := [.handle, .sentinel, .sentinel], laidTests := true, laidLooks := .later }
def KinkFlatUptoCardSaid : Prop := Claim7.holds Tryz.pinned (.plain (OpenSpec.upto kinkFlatSpec)) kinkFlatUptoCard

/-- THE SECOND FORM's CARD OF 'tapewrightlaw07.KinkTwo'. -/
def kinkTwoUptoCard : Claim7 := { stood := { row := kinkTwoUptoRow, standIns := [], harness := (true, "3ae579ff5f591b7206c348ee98b6113d5fecf13b5455fb563c0885e33e3f9b27"), looks := true }, kinds := [], alts := [], laidByText := true, laidKinds := [.handle, .sentinel, .sentinel], laidTests := true, laidLooks := .later }
def KinkTwoUptoCardSaid : Prop := Claim7.holds Tryz.pinned (.plain (OpenSpec.upto kinkTwoSpec)) kinkTwoUptoCard

/-- THE SECOND FORM's CARD OF 'tapewrightlaw07.KinkSigns'. -/
def kinkSignsUptoCard : Claim7 := { stood := { row := kinkSignsUptoRow, standIns := [], harness := (true, "3ae579ff5f591b7206c348ee98b6113d5fecf13b5455fb563c0885e33e3f9b27"), looks := true }, kinds := [], alts := [], laidByText := true, laidKinds := [.handle, .sentinel, .sentinel], laidTests := true, laidLooks := .later }
def KinkSignsUptoCardSaid : Prop := Claim7.holds Tryz.pinned (.plain (OpenSpec.upto kinkSignsSpec)) kinkSignsUptoCard

/-- THE SECOND FORM's CARD OF 'tapewrightlaw07.KinkOrder'. -/
def kinkOrderUptoCard : Claim7 := { stood := { row := kinkOrderUptoRow, standIns := [], harness := (true, "3ae579ff5f591b7206c348ee98b6113d5fecf13b5455fb563c0885e33e3f9b27"), looks := true }, kinds := [], alts := [], laidByText := true, laidKinds := [.handle, .sentinel, .sentinel], laidTests := true, laidLooks := .later }
def KinkOrderUptoCardSaid : Prop := Claim7.holds Tryz.pinned (.plain (OpenSpec.upto kinkOrderSpec)) kinkOrderUptoCard
end Rows
end Go.Proofs.YtndkjpkgllmbnaaGreatDoor

/-
  DERIVED. GIVEN WITH THE SEED: THE CARDS: each row of YtfjlmiehbikmnaaDoorRows.lean that lists a variable, with what it lists TIED to the program's text (the seventh form; the later family's looks); each row that meets fmt, with fmt's text TOLD by the authors' own Lean function (tested against real Go, not proved from fmt's source: count such statements apart). THE CARD IS WHAT COUNTS. Prove the row's statement (the work); the ties are given (YtfjlmiehbikmnaaDoorTie.lean); close each card by the builder's one call (the guide's Derived/Test/ToyasCard.lean, 'card_holds'). Laid BY PROGRAM, IN A SANDBOX (cutbox-door.mjs). By AI agents, Wed Nov 11 2026. No macro, syntax, notation, axiom, sorry.
-/
import Derived.Test.YtfjlmiehbikmnaaDoorRows
import GoSem.ClaimSeven
namespace Go.Proofs.YtfjlmiehbikmnaaDoor
namespace Rows

/-- THE TIED CARD OF 'tapewrightlaw03.RatTexts'. -/
def ratTextsCard : Claim7 := { stood := { row := ratTextsRow, standIns := [], harness := (true, "1aaeb791aa0c9f8627930f413b02ce8a68fbf719cbaab1249ec200401d893941"), looks := true }, kinds := [], alts := [], laidByText := true, laidKinds := [.handle, .sentinel, .sentinel], laidTests := true, laidLooks := .later }
def RatTextsCardSaid : Prop := Claim7.holds Tryd.pinned (.plain (OpenSpec.ofChange ratTextsSpec)) ratTextsCard

/-- THE TIED CARD OF 'tapewrightlaw03.RatQuos'. -/
def ratQuosCard : Claim7 := { stood := { row := ratQuosRow, standIns := [], harness := (true, "1aaeb791aa0c9f8627930f413b02ce8a68fbf719cbaab1249ec200401d893941"), looks := true }, kinds := [], alts := [], laidByText := true, laidKinds := [.handle, .sentinel, .sentinel], laidTests := true, laidLooks := .later }
def RatQuosCardSaid : Prop := Claim7.holds Tryd.pinned (.plain (OpenSpec.ofChange ratQuosSpec)) ratQuosCard

/-- THE TIED CARD OF 'tapewrightlaw03.RatPowers'. -/
def ratPowersCard : Claim7 := { stood := { row := ratPowersRow, standIns := [], harness := (true, "1aaeb791aa0c9f8627930f413b02ce8a68fbf719cbaab1249ec200401d893941"), looks := true }, kinds := [], alts := [], laidByText := true, laidKinds := [.handle, .sentinel, .sentinel], laidTests := true, laidLooks := .later }
def RatPowersCardSaid : Prop := Claim7.holds Tryd.pinned (.plain (OpenSpec.ofChange ratPowersSpec)) ratPowersCard

/-- THE TIED CARD OF 'tapewrightlaw03.RatLaws'. -/
def ratLawsCard : Claim7 := { stood := { row := ratLawsRow, standIns := [], harness := (true, "1aaeb791aa0c9f8627930f413b02ce8a68fbf719cbaab1249ec200401d893941"), looks := true }, kinds := [], alts := [], laidByText := true, laidKinds := [.handle, .sentinel, .sentinel], laidTests := true, laidLooks := .later }
def RatLawsCardSaid : Prop := Claim7.holds Tryd.pinned (.plain (OpenSpec.ofChange ratLawsSpec)) ratLawsCard

/-- THE TIED CARD OF 'tapewrightlaw03.RatUnits'. -/
def ratUnitsCard : Claim7 := { stood := { row := ratUnitsRow, standIns := [], harness := (true, "1aaeb791aa0c9f8627930f413b02ce8a68fbf719cbaab1249ec200401d893941"), looks := true }, kinds := [], alts := [], laidByText := true, laidKinds := [.handle, .sentinel, .sentinel], laidTests := true, laidLooks := .later }
def RatUnitsCardSaid : Prop := Claim7.holds Tryd.pinned (.plain (OpenSpec.ofChange ratUnitsSpec)) ratUnitsCard

/-- THE TIED CARD OF 'tapewrightlaw03.RatSigns'. -/
def ratSignsCard : Claim7 := { stood := { row := ratSignsRow, standIns := [], harness := (true, "1aaeb791aa0c9f8627930f413b02ce8a68fbf719cbaab1249ec200401d893941"), looks := true }, kinds := [], alts := [], laidByText := true, laidKinds := [.handle, .sentinel, .sentinel], laidTests := true, laidLooks := .later }
def RatSignsCardSaid : Prop := Claim7.holds Tryd.pinned (.plain (OpenSpec.ofChange ratSignsSpec)) ratSignsCard

/-- THE TIED CARD OF 'tapewrightlaw03.RatOne'. -/
def ratOneCard : Claim7 := { stood := { row := ratOneRow, standIns := [], harness := (true, "1aaeb791aa0c9f8627930f413b02ce8a68fbf719cbaab1249ec200401d893941"), looks := true }, kinds := [], alts := [], laidByText := true, laidKinds := [.handle, .sentinel, .sentinel], laidTests := true, laidLooks := .later }
def RatOneCardSaid : Prop := Claim7.holds Tryd.pinned (.plain (OpenSpec.ofChange ratOneSpec)) ratOneCard

/-- THE TIED CARD OF 'tapewrightlaw03.RatOrder'. -/
def ratOrderCard : Claim7 := { stood := { row := ratOrderRow, standIns := [], harness := (true, "1aaeb791aa0c9f8627930f413b02ce8a68fbf719cbaab1249ec200401d893941"), looks := true }, kinds := [], alts := [], laidByText := true, laidKinds := [.handle, .sentinel, .sentinel], laidTests := true, laidLooks := .later }
def RatOrderCardSaid : Prop := Claim7.holds Tryd.pinned (.plain (OpenSpec.ofChange ratOrderSpec)) ratOrderCard

/-- THE TIED CARD OF 'tapewrightlaw03.RatBetween'. -/
def ratBetweenCard : Claim7 := { stood := { row := ratBetweenRow, standIns := [], harness := (true, "1aaeb791aa0c9f8627930f413b02ce8a68fbf719cbaab1249ec200401d893941"), looks := true }, kinds := [], alts := [], laidByText := true, laidKinds := [.handle, .sentinel, .sentinel], laidTests := true, laidLooks := .later }
def RatBetweenCardSaid : Prop := Claim7.holds Tryd.pinned (.plain (OpenSpec.ofChange ratBetweenSpec)) ratBetweenCard

/-- THE SECOND FORM's CARD OF 'tapewrightlaw03.RatTexts'. -/
def ratTextsUptoCard : Claim7 := { stood := { row := ratTextsUptoRow, standIns := [], harness := (true, "1aaeb791aa0c9f8627930f413b02ce8a68fbf719cbaab1249ec200401d893941"), looks := true }, kinds := [], alts := [], laidByText := true, laidKinds := [.handle, .sentinel, .sentinel], laidTests := true, laidLooks := .later }
def RatTextsUptoCardSaid : Prop := Claim7.holds Tryd.pinned (.plain (OpenSpec.upto ratTextsSpec)) ratTextsUptoCard

/-- THE SECOND FORM's CARD OF 'tapewrightlaw03.RatQuos'. -/
def ratQuosUptoCard : Claim7 := { stood := { row := ratQuosUptoRow, standIns := [], harness := (true, "1aaeb791aa0c9f8627930f413b02ce8a68fbf719cbaab1249ec200401d893941"), looks := true }, kinds := [], alts := [], laidByText := true, laidKinds := [.handle, .sentinel, .sentinel], laidTests := true, laidLooks := .later }
def RatQuosUptoCardSaid : Prop := Claim7.holds Tryd.pinned (.plain (OpenSpec.upto ratQuosSpec)) ratQuosUptoCard

/-- THE SECOND FORM's CARD OF 'tapewrightlaw03.RatPowers'. -/
def ratPowersUptoCard : Claim7 := { stood := { row := ratPowersUptoRow, standIns := [], harness := (true, "1aaeb791aa0c9f8627930f413b02ce8a68fbf719cbaab1249ec200401d893941"), looks := true }, kinds := [], alts := [], laidByText := true, laidKinds := [.handle, .sentinel, .sentinel], laidTests := true, laidLooks := .later }
def RatPowersUptoCardSaid : Prop := Claim7.holds Tryd.pinned (.plain (OpenSpec.upto ratPowersSpec)) ratPowersUptoCard

/-- THE SECOND FORM's CARD OF 'tapewrightlaw03.RatLaws'. -/
def ratLawsUptoCard : Claim7 := { stood := { row := ratLawsUptoRow, standIns := [], harness := (true, "1aaeb791aa0c9f8627930f413b02ce8a68fbf719cbaab1249ec200401d893941"), looks := true }, kinds := [], alts := [], laidByText := true, laidKinds := [.handle, .sentinel, .sentinel], laidTests := true, laidLooks := .later }
def RatLawsUptoCardSaid : Prop := Claim7.holds Tryd.pinned (.plain (OpenSpec.upto ratLawsSpec)) ratLawsUptoCard

/-- THE SECOND FORM's CARD OF 'tapewrightlaw03.RatUnits'. -/
def ratUnitsUptoCard : Claim7 := { stood := { row := ratUnitsUptoRow, standIns := [], harness := (true, "1aaeb791aa0c9f8627930f413b02ce8a68fbf719cbaab1249ec200401d893941"), looks := true }, kinds := [], alts := [], laidByText := true, laidKinds := [.handle, .sentinel, .sentinel], laidTests := true, laidLooks := .later }
def RatUnitsUptoCardSaid : Prop := Claim7.holds Tryd.pinned (.plain (OpenSpec.upto ratUnitsSpec)) ratUnitsUptoCard

/-- THE SECOND FORM's CARD OF 'tapewrightlaw03.RatSigns'. -/
def ratSignsUptoCard : Claim7 := { stood := { row := ratSignsUptoRow, standIns := [], harness := (true, "1aaeb791aa0c9f8627930f413b02ce8a68fbf719cbaab1249ec200401d893941"), looks := true }, kinds := [], alts := [], laidByText := true, laidKinds := [.handle, .sentinel, .sentinel], laidTests := true, laidLooks := .later }
def RatSignsUptoCardSaid : Prop := Claim7.holds Tryd.pinned (.plain (OpenSpec.upto ratSignsSpec)) ratSignsUptoCard

/-- THE SECOND FORM's CARD OF 'tapewrightlaw03.RatOne'. -/
def ratOneUptoCard : Claim7 := { stood := { row := ratOneUptoRow, standIns := [], harness := (true, "1aaeb791aa0c9f8627930f413b02ce8a68fbf719cbaab1249ec200401d893941"), looks := true }, kinds := [], alts := [], laidByText := true, laidKinds := [.handle, .sentinel, .sentinel], laidTests := true, laidLooks := .later }
def RatOneUptoCardSaid : Prop := Claim7.holds Tryd.pinned (.plain (OpenSpec.upto ratOneSpec)) ratOneUptoCard

/-- THE SECOND FORM's CARD OF 'tapewrightlaw03.RatOrder'. -/
def ratOrderUptoCard : Claim7 := { stood := { row := ratOrderUptoRow, standIns := [], harness := (true, "1aaeb791aa0c9f8627930f413b02ce8a68fbf719cbaab1249ec200401d893941"), looks := true }, kinds := [], alts := [], laidByText := true, laidKinds := [.handle, .sentinel, .sentinel], laidTests := true, laidLooks := .later }
def RatOrderUptoCardSaid : Prop := Claim7.holds Tryd.pinned (.plain (OpenSpec.upto ratOrderSpec)) ratOrderUptoCard

/-- THE SECOND FORM's CARD OF 'tapewrightlaw03.RatBetween'. -/
def ratBetweenUptoCard : Claim7 := { stood := { row := ratBetweenUptoRow, standIns := [], harness := (true, "1aaeb791aa0c9f8627930f413b02ce8a68fbf719cbaab1249ec200401d893941"), looks := true }, kinds := [], alts := [], laidByText := true, laidKinds := [.handle, .sentinel, .sentinel], laidTests := true, laidLooks := .later }
def RatBetweenUptoCardSaid : Prop := Claim7.holds Tryd.pinned (.plain (OpenSpec.upto ratBetweenSpec)) ratBetweenUptoCard
end Rows
end Go.Proofs.YtfjlmiehbikmnaaDoor

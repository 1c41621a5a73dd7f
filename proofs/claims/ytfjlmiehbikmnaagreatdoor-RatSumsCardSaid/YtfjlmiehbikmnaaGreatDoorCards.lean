/-
  DERIVED. GIVEN WITH THE SEED: THE CARDS: each row of YtfjlmiehbikmnaaGreatDoorRows.lean that lists a variable, with what it lists TIED to the program's text (the seventh form; the later family's looks); each row that meets fmt, with fmt's text TOLD by the authors' own Lean function (tested against real Go, not proved from fmt's source: count such statements apart). THE CARD IS WHAT COUNTS. Prove the row's statement (the work); the ties are given (YtfjlmiehbikmnaaGreatDoorTie.lean); close each card by the builder's one call (the guide's Derived/Test/ToyasCard.lean, 'card_holds'). Laid BY PROGRAM, IN A SANDBOX (cutbox-door.mjs). By AI agents, Wed Nov 11 2026. No macro, syntax, notation, axiom, sorry.
-/
import Derived.Test.YtfjlmiehbikmnaaGreatDoorRows
import GoSem.ClaimSeven
namespace Go.Proofs.YtfjlmiehbikmnaaGreatDoor
namespace Rows

/-- THE TIED CARD OF 'tapewrightlaw03.RatMade'. -/
def ratMadeCard : Claim7 := { stood := { row := ratMadeRow, standIns := [], harness := (true, "ae903c91e9f4d87556a1a375719c288bfbeafc9bcfe52b455cbceda933321f63"), looks := true }, kinds := [], alts := [], laidByText := true, laidKinds := [.handle, .sentinel, .sentinel], laidTests := true, laidLooks := .later }
def RatMadeCardSaid : Prop := Claim7.holds Tryz.pinned (.plain (OpenSpec.ofChange ratMadeSpec)) ratMadeCard

/-- THE TIED CARD OF 'tapewrightlaw03.RatSums'. -/
def ratSumsCard : Claim7 := { stood := { row := ratSumsRow, standIns := [], harness := (true, "ae903c91e9f4d87556a1a375719c288bfbeafc9bcfe52b455cbceda933321f63"), looks := true }, kinds := [], alts := [], laidByText := true, laidKinds := [.handle, .sentinel, .sentinel], laidTests := true, laidLooks := .later }
def RatSumsCardSaid : Prop := Claim7.holds Tryz.pinned (.plain (OpenSpec.ofChange ratSumsSpec)) ratSumsCard

/-- THE TIED CARD OF 'tapewrightlaw03.RatMakes'. -/
def ratMakesCard : Claim7 := { stood := { row := ratMakesRow, standIns := [], harness := (true, "ae903c91e9f4d87556a1a375719c288bfbeafc9bcfe52b455cbceda933321f63"), looks := true }, kinds := [], alts := [], laidByText := true, laidKinds := [.handle, .sentinel, .sentinel], laidTests := true, laidLooks := .later }
def RatMakesCardSaid : Prop := Claim7.holds Tryz.pinned (.plain (OpenSpec.ofChange ratMakesSpec)) ratMakesCard

/-- THE SECOND FORM's CARD OF 'tapewrightlaw03.RatMade'. -/
def ratMadeUptoCard : Claim7 := { stood := { row := ratMadeUptoRow, standIns := [], harness := (true, "ae903c91e9f4d87556a1a375719c288bfbeafc9bcfe52b455cbceda933321f63"), looks := true }, kinds := [], alts := [], laidByText := true, laidKinds := [.handle, .sentinel, .sentinel], laidTests := true, laidLooks := .later }
def RatMadeUptoCardSaid : Prop := Claim7.holds Tryz.pinned (.plain (OpenSpec.upto ratMadeSpec)) ratMadeUptoCard

/-- THE SECOND FORM's CARD OF 'tapewrightlaw03.RatSums'. -/
def ratSumsUptoCard : Claim7 := { stood := { row := ratSumsUptoRow, standIns := [], harness := (true, "ae903c91e9f4d87556a1a375719c288bfbeafc9bcfe52b455cbceda933321f63"), looks := true }, kinds := [], alts := [], laidByText := true, laidKinds := [.handle, .sentinel, .sentinel], laidTests := true, laidLooks := .later }
def RatSumsUptoCardSaid : Prop := Claim7.holds Tryz.pinned (.plain (OpenSpec.upto ratSumsSpec)) ratSumsUptoCard

/-- THE SECOND FORM's CARD OF 'tapewrightlaw03.RatMakes'. -/
def ratMakesUptoCard : Claim7 := { stood := { row := ratMakesUptoRow, standIns := [], harness := (true, "ae903c91e9f4d87556a1a375719c288bfbeafc9bcfe52b455cbceda933321f63"), looks := true }, kinds := [], alts := [], laidByText := true, laidKinds := [.handle, .sentinel, .sentinel], laidTests := true, laidLooks := .later }
def RatMakesUptoCardSaid : Prop := Claim7.holds Tryz.pinned (.plain (OpenSpec.upto ratMakesSpec)) ratMakesUptoCard
end Rows
end Go.Proofs.YtfjlmiehbikmnaaGreatDoor

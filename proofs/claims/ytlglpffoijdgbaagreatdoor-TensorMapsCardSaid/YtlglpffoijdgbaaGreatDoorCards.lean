/-
  DERIVED. GIVEN WITH THE SEED: THE CARDS: each row of YtlglpffoijdgbaaGreatDoorRows.lean that lists a variable, with what it lists TIED to the program's text (the seventh form; the later family's looks); each row that meets fmt, with fmt's text TOLD by the authors' own Lean function (tested against real Go, not proved from fmt's source: count such statements apart). THE CARD IS WHAT COUNTS. Prove the row's statement (the work); the ties are given (YtlglpffoijdgbaaGreatDoorTie.lean); close each card by the builder's one call (the guide's Derived/Test/ToyasCard.lean, 'card_holds'). Laid BY PROGRAM, IN A SANDBOX (cutbox-door.mjs). By AI agents, Wed Nov 11 2026. No macro, syntax, notation, axiom, sorry.
-/
import Derived.Test.YtlglpffoijdgbaaGreatDoorRows
import GoSem.ClaimSeven
namespace Go.Proofs.YtlglpffoijdgbaaGreatDoor
namespace Rows

/-- THE TIED CARD OF 'tapewrightlaw05.TensorZips'. -/
def tensorZipsCard : Claim7 := { stood := { row := tensorZipsRow, standIns := [], harness := (true, "2ca07fa30741293eff56bd8df9dac43a9866e6e7fc7ae19afb58d4a52e766f9a"), looks := true }, kinds := [], alts := [], laidByText := true, laidKinds := [.handle, .sentinel, .sentinel], laidTests := true, laidLooks := .later }
def TensorZipsCardSaid : Prop := Claim7.holds Tryz.pinned (.plain (OpenSpec.ofChange tensorZipsSpec)) tensorZipsCard

/-- THE TIED CARD OF 'tapewrightlaw05.TensorTimes'. -/
def tensorTimesCard : Claim7 := { stood := { row := tensorTimesRow, standIns := [], harness := (true, "2ca07fa30741293eff56bd8df9dac43a9866e6e7fc7ae19afb58d4a52e766f9a"), looks := true }, kinds := [], alts := [], laidByText := true, laidKinds := [.handle, .sentinel, .sentinel], laidTests := true, laidLooks := .later }
def TensorTimesCardSaid : Prop := Claim7.holds Tryz.pinned (.plain (OpenSpec.ofChange tensorTimesSpec)) tensorTimesCard

/-- THE TIED CARD OF 'tapewrightlaw05.TensorScales'. -/
def tensorScalesCard : Claim7 := { stood := { row := tensorScalesRow, standIns := [], harness := (true, "2ca07fa30741293eff56bd8df9dac43a9866e6e7fc7ae19afb58d4a52e766f9a"), looks := true }, kinds := [], alts := [], laidByText := true, laidKinds := [.handle, .sentinel, .sentinel], laidTests := true, laidLooks := .later }
def TensorScalesCardSaid : Prop := Claim7.holds Tryz.pinned (.plain (OpenSpec.ofChange tensorScalesSpec)) tensorScalesCard

/-- THE TIED CARD OF 'tapewrightlaw05.TensorNone'. -/
def tensorNoneCard : Claim7 := { stood := { row := tensorNoneRow, standIns := [], harness := (true, "2ca07fa30741293eff56bd8df9dac43a9866e6e7fc7ae19afb58d4a52e766f9a"), looks := true }, kinds := [], alts := [], laidByText := true, laidKinds := [.handle, .sentinel, .sentinel], laidTests := true, laidLooks := .later }
def TensorNoneCardSaid : Prop := Claim7.holds Tryz.pinned (.plain (OpenSpec.ofChange tensorNoneSpec)) tensorNoneCard

/-- THE TIED CARD OF 'tapewrightlaw05.TensorLaws'. -/
def tensorLawsCard : Claim7 := { stood := { row := tensorLawsRow, standIns := [], harness := (true, "2ca07fa30741293eff56bd8df9dac43a9866e6e7fc7ae19afb58d4a52e766f9a"), looks := true }, kinds := [], alts := [], laidByText := true, laidKinds := [.handle, .sentinel, .sentinel], laidTests := true, laidLooks := .later }
def TensorLawsCardSaid : Prop := Claim7.holds Tryz.pinned (.plain (OpenSpec.ofChange tensorLawsSpec)) tensorLawsCard

/-- THE TIED CARD OF 'tapewrightlaw05.TensorSums'. -/
def tensorSumsCard : Claim7 := { stood := { row := tensorSumsRow, standIns := [], harness := (true, "2ca07fa30741293eff56bd8df9dac43a9866e6e7fc7ae19afb58d4a52e766f9a"), looks := true }, kinds := [], alts := [], laidByText := true, laidKinds := [.handle, .sentinel, .sentinel], laidTests := true, laidLooks := .later }
def TensorSumsCardSaid : Prop := Claim7.holds Tryz.pinned (.plain (OpenSpec.ofChange tensorSumsSpec)) tensorSumsCard

/-- THE TIED CARD OF 'tapewrightlaw05.TensorShapes'. -/
def tensorShapesCard : Claim7 := { stood := { row := tensorShapesRow, standIns := [], harness := (true, "2ca07fa30741293eff56bd8df9dac43a9866e6e7fc7ae19afb58d4a52e766f9a"), looks := true }, kinds := [], alts := [], laidByText := true, laidKinds := [.handle, .sentinel, .sentinel], laidTests := true, laidLooks := .later }
def TensorShapesCardSaid : Prop := Claim7.holds Tryz.pinned (.plain (OpenSpec.ofChange tensorShapesSpec)) tensorShapesCard

/-- THE TIED CARD OF 'tapewrightlaw05.TensorPowers'. -/
def tensorPowersCard : Claim7 := { stood := { row := tensorPowersRow, standIns := [], harness := (true, "2ca07fa30741293eff56bd8df9dac43a9866e6e7fc7ae19afb58d4a52e766f9a"), looks := true }, kinds := [], alts := [], laidByText := true, laidKinds := [.handle, .sentinel, .sentinel], laidTests := true, laidLooks := .later }
def TensorPowersCardSaid : Prop := Claim7.holds Tryz.pinned (.plain (OpenSpec.ofChange tensorPowersSpec)) tensorPowersCard

/-- THE TIED CARD OF 'tapewrightlaw05.TensorMaps'. -/
def tensorMapsCard : Claim7 := { stood := { row := tensorMapsRow, standIns := [], harness := (true, "2ca07fa30741293eff56bd8df9dac43a9866e6e7fc7ae19afb58d4a52e766f9a"), looks := true }, kinds := [], alts := [], laidByText := true, laidKinds := [.handle, .sentinel, .sentinel], laidTests := true, laidLooks := .later }
def TensorMapsCardSaid : Prop := Claim7.holds Tryz.pinned (.plain (OpenSpec.ofChange tensorMapsSpec)) tensorMapsCard

/-- THE SECOND FORM's CARD OF 'tapewrightlaw05.TensorZips'. -/
def tensorZipsUptoCard : Claim7 := { stood := { row := tensorZipsUptoRow, standIns := [], harness := (true, "2ca07fa30741293eff56bd8df9dac43a9866e6e7fc7ae19afb58d4a52e766f9a"), looks := true }, kinds := [], alts := [], laidByText := true, laidKinds := [.handle, .sentinel, .sentinel], laidTests := true, laidLooks := .later }
def TensorZipsUptoCardSaid : Prop := Claim7.holds Tryz.pinned (.plain (OpenSpec.upto tensorZipsSpec)) tensorZipsUptoCard

/-- THE SECOND FORM's CARD OF 'tapewrightlaw05.TensorTimes'. -/
def tensorTimesUptoCard : Claim7 := { stood := { row := tensorTimesUptoRow, standIns := [], harness := (true, "2ca07fa30741293eff56bd8df9dac43a9866e6e7fc7ae19afb58d4a52e766f9a"), looks := true }, kinds := [], alts := [], laidByText := true, laidKinds := [.handle, .sentinel, .sentinel], laidTests := true, laidLooks := .later }
def TensorTimesUptoCardSaid : Prop := Claim7.holds Tryz.pinned (.plain (OpenSpec.upto tensorTimesSpec)) tensorTimesUptoCard

/-- THE SECOND FORM's CARD OF 'tapewrightlaw05.TensorScales'. -/
def tensorScalesUptoCard : Claim7 := { stood := { row := tensorScalesUptoRow, standIns := [], harness := (true, "2ca07fa30741293eff56bd8df9dac43a9866e6e7fc7ae19afb58d4a52e766f9a"), looks := true }, kinds := [], alts := [], laidByText := true, laidKinds := [.handle, .sentinel, .sentinel], laidTests := true, laidLooks := .later }
def TensorScalesUptoCardSaid : Prop := Claim7.holds Tryz.pinned (.plain (OpenSpec.upto tensorScalesSpec)) tensorScalesUptoCard

/-- THE SECOND FORM's CARD OF 'tapewrightlaw05.TensorNone'. -/
def tensorNoneUptoCard : Claim7 := { stood := { row := tensorNoneUptoRow, standIns := [], harness := (true, "2ca07fa30741293eff56bd8df9dac43a9866e6e7fc7ae19afb58d4a52e766f9a"), looks := true }, kinds := [], alts := [], laidByText := true, laidKinds := [.handle, .sentinel, .sentinel], laidTests := true, laidLooks := .later }
def TensorNoneUptoCardSaid : Prop := Claim7.holds Tryz.pinned (.plain (OpenSpec.upto tensorNoneSpec)) tensorNoneUptoCard

/-- THE SECOND FORM's CARD OF 'tapewrightlaw05.TensorLaws'. -/
def tensorLawsUptoCard : Claim7 := { stood := { row := tensorLawsUptoRow, standIns := [], harness := (true, "2ca07fa30741293eff56bd8df9dac43a9866e6e7fc7ae19afb58d4a52e766f9a"), looks := true }, kinds := [], alts := [], laidByText := true, laidKinds := [.handle, .sentinel, .sentinel], laidTests := true, laidLooks := .later }
def TensorLawsUptoCardSaid : Prop := Claim7.holds Tryz.pinned (.plain (OpenSpec.upto tensorLawsSpec)) tensorLawsUptoCard

/-- THE SECOND FORM's CARD OF 'tapewrightlaw05.TensorSums'. -/
def tensorSumsUptoCard : Claim7 := { stood := { row := tensorSumsUptoRow, standIns := [], harness := (true, "2ca07fa30741293eff56bd8df9dac43a9866e6e7fc7ae19afb58d4a52e766f9a"), looks := true }, kinds := [], alts := [], laidByText := true, laidKinds := [.handle, .sentinel, .sentinel], laidTests := true, laidLooks := .later }
def TensorSumsUptoCardSaid : Prop := Claim7.holds Tryz.pinned (.plain (OpenSpec.upto tensorSumsSpec)) tensorSumsUptoCard

/-- THE SECOND FORM's CARD OF 'tapewrightlaw05.TensorShapes'. -/
def tensorShapesUptoCard : Claim7 := { stood := { row := tensorShapesUptoRow, standIns := [], harness := (true, "2ca07fa30741293eff56bd8df9dac43a9866e6e7fc7ae19afb58d4a52e766f9a"), looks := true }, kinds := [], alts := [], laidByText := true, laidKinds := [.handle, .sentinel, .sentinel], laidTests := true, laidLooks := .later }
def TensorShapesUptoCardSaid : Prop := Claim7.holds Tryz.pinned (.plain (OpenSpec.upto tensorShapesSpec)) tensorShapesUptoCard

/-- THE SECOND FORM's CARD OF 'tapewrightlaw05.TensorPowers'. -/
def tensorPowersUptoCard : Claim7 := { stood := { row := tensorPowersUptoRow, standIns := [], harness := (true, "2ca07fa30741293eff56bd8df9dac43a9866e6e7fc7ae19afb58d4a52e766f9a"), looks := true }, kinds := [], alts := [], laidByText := true, laidKinds := [.handle, .sentinel, .sentinel], laidTests := true, laidLooks := .later }
def TensorPowersUptoCardSaid : Prop := Claim7.holds Tryz.pinned (.plain (OpenSpec.upto tensorPowersSpec)) tensorPowersUptoCard

/-- THE SECOND FORM's CARD OF 'tapewrightlaw05.TensorMaps'. -/
def tensorMapsUptoCard : Claim7 := { stood := { row := tensorMapsUptoRow, standIns := [], harness := (true, "2ca07fa30741293eff56bd8df9dac43a9866e6e7fc7ae19afb58d4a52e766f9a"), looks := true }, kinds := [], alts := [], laidByText := true, laidKinds := [.handle, .sentinel, .sentinel], laidTests := true, laidLooks := .later }
def TensorMapsUptoCardSaid : Prop := Claim7.holds Tryz.pinned (.plain (OpenSpec.upto tensorMapsSpec)) tensorMapsUptoCard
end Rows
end Go.Proofs.YtlglpffoijdgbaaGreatDoor

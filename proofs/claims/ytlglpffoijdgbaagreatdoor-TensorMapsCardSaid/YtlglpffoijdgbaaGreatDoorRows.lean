/-
  NARROWER THAN 'FOR EVERY INPUT', by the rows' own cells (each row's printed sentence says how): TensorZips: laid · TensorTimes: laid · TensorScales: laid · TensorNone: laid · TensorLaws: laid · TensorSums: laid · TensorShapes: laid · TensorPowers: laid · TensorMaps: laid.
  DERIVED. THE GIVEN ROWS OF THIS SEAT. 9 by the template 'for every input the law returns true; each argument reads behind the call as it read before'; 0 by the template 'total and deterministic' (their statements: YtlglpffoijdgbaaGreatDoorTotals.lean).
  GIVEN WITH THE SEED: the statements are not yours to turn. If you find one false, say at which input.
  Laid BY PROGRAM, IN A SANDBOX (cutbox-rows.mjs): the forced cells as the released guide's own fill.sh prints them over the translation f5f7e57c8f3e7f45… (all of the seat's roots in one cut). By AI agents, Wed Nov 11 2026. No macro, syntax, notation, axiom, sorry.
-/
import Derived.Test.YtlglpffoijdgbaaGreatDoorChecked
import GoSem.Claim
import GoSem.ClaimJoined
import GoSem.ClaimMapViews
import Derived.JoinedTies
import Derived.KernelRfl
namespace Go.Proofs.YtlglpffoijdgbaaGreatDoor
/- THE CELL 'sum', in the pinned program and in every row, IS THE sha256 OF THE DUMP (.gsa) THAT YtlglpffoijdgbaaGreatDoorProg.lean LOADS. Nothing in Lean hashes anything: it is a label: what it is worth is what the hold of that sum in a sandbox is worth. -/
noncomputable def Tryz.pinned : Pinned := { name := "ytlglpffoijdgbaagreatdoor", sum := "f5f7e57c8f3e7f450b435396bb24f7d779e90d994ff8a9c6302138f42a44288b", checked := Tryz.checked }
namespace Rows
def none {H : Type} : Left H := { results := [], args := [] }

/- WHAT THE LISTED PACKAGE-LEVEL VARIABLES READ AS WHEN THE CALL BEGINS. Each datum BY PROGRAM (the guide's laid-datum.mjs) off the statement by which the dump's own 'gosem.cut.vars' lays the variable. In a bare row this is a premise. The card (YtlglpffoijdgbaaGreatDoorCards.lean) ties it to the program's text. -/
def laid_errors_errorType {H : Type} : DataW H := .iface "internal/reflectlite.rtype" (.agg [.ptr (.lit (.string [101, 114, 114, 111, 114]))])
def laid_tapewright_rat_errForm {H : Type} : DataW H := .iface "*errors.errorString" (.ptr (.agg [.lit (.string [110, 111, 32, 114, 97, 116, 105, 111, 110, 97, 108])]))
def laid_tapewright_rat_errZero {H : Type} : DataW H := .iface "*errors.errorString" (.ptr (.agg [.lit (.string [98, 121, 32, 110, 111, 117, 103, 104, 116])]))

/-- 'tapewrightlaw05.TensorZips': WHATEVER THE INPUT: true; the input reads as it did. -/
def tensorZipsSpec : ChangeSpec := { name := "tensorZips", fn := fun _ => fun
  | [d1, d2, d3] => { results := [.lit (.bool true)], args := [d1, d2, d3] }
  | _ => none }
def tensorZipsRow : OpenClaim := { program := "ytlglpffoijdgbaagreatdoor", sum := "f5f7e57c8f3e7f450b435396bb24f7d779e90d994ff8a9c6302138f42a44288b", func := "tapewright/tapewrightlaw05.TensorZips", spec := "tensorZips", inPlace := ["internal/bytealg.IndexByteString", "internal/bytealg.IndexString", "internal/reflectlite.TypeOf", "internal/reflectlite.ValueOf", "(internal/reflectlite.Value).Type", "(internal/reflectlite.Value).IsNil", "(internal/reflectlite.Value).Elem", "(internal/reflectlite.Value).Set"], unfollowed := true, recurses := true, named := ["tapewright/rat.errForm", "internal/bytealg.MaxLen", "tapewright/rat.errZero", "errors.errorType"], apart := false, laid := [("errors.errorType", laid_errors_errorType), ("tapewright/rat.errForm", laid_tapewright_rat_errForm), ("tapewright/rat.errZero", laid_tapewright_rat_errZero)] }
def TensorZipsSaid : Prop := tensorZipsRow.holds Tryz.pinned (OpenSpec.ofChange tensorZipsSpec)

/-- ITS FALSE NEIGHBOUR: 'it returns false'. Refute it at one input. -/
def tensorZipsWrong : ChangeSpec := { name := "tensorZips", fn := fun _ => fun
  | [d1, d2, d3] => { results := [.lit (.bool false)], args := [d1, d2, d3] }
  | _ => none }
def TensorZipsWrongFalsely : Prop := tensorZipsRow.holds Tryz.pinned (OpenSpec.ofChange tensorZipsWrong)

/-- 'tapewrightlaw05.TensorTimes': WHATEVER THE INPUT: true; the input reads as it did. -/
def tensorTimesSpec : ChangeSpec := { name := "tensorTimes", fn := fun _ => fun
  | [d1, d2, d3] => { results := [.lit (.bool true)], args := [d1, d2, d3] }
  | _ => none }
def tensorTimesRow : OpenClaim := { program := "ytlglpffoijdgbaagreatdoor", sum := "f5f7e57c8f3e7f450b435396bb24f7d779e90d994ff8a9c6302138f42a44288b", func := "tapewright/tapewrightlaw05.TensorTimes", spec := "tensorTimes", inPlace := ["internal/bytealg.IndexByteString", "internal/bytealg.IndexString", "internal/reflectlite.TypeOf", "internal/reflectlite.ValueOf", "(internal/reflectlite.Value).Type", "(internal/reflectlite.Value).IsNil", "(internal/reflectlite.Value).Elem", "(internal/reflectlite.Value).Set"], unfollowed := true, recurses := true, named := ["tapewright/rat.errForm", "internal/bytealg.MaxLen", "tapewright/rat.errZero", "errors.errorType"], apart := false, laid := [("errors.errorType", laid_errors_errorType), ("tapewright/rat.errForm", laid_tapewright_rat_errForm), ("tapewright/rat.errZero", laid_tapewright_rat_errZero)] }
def TensorTimesSaid : Prop := tensorTimesRow.holds Tryz.pinned (OpenSpec.ofChange tensorTimesSpec)

/-- ITS FALSE NEIGHBOUR: 'it returns false'. Refute it at one input. -/
def tensorTimesWrong : ChangeSpec := { name := "tensorTimes", fn := fun _ => fun
  | [d1, d2, d3] => { results := [.lit (.bool false)], args := [d1, d2, d3] }
  | _ => none }
def TensorTimesWrongFalsely : Prop := tensorTimesRow.holds Tryz.pinned (OpenSpec.ofChange tensorTimesWrong)

/-- 'tapewrightlaw05.TensorScales': WHATEVER THE INPUT: true; the input reads as it did. -/
def tensorScalesSpec : ChangeSpec := { name := "tensorScales", fn := fun _ => fun
  | [d1, d2, d3] => { results := [.lit (.bool true)], args := [d1, d2, d3] }
  | _ => none }
def tensorScalesRow : OpenClaim := { program := "ytlglpffoijdgbaagreatdoor", sum := "f5f7e57c8f3e7f450b435396bb24f7d779e90d994ff8a9c6302138f42a44288b", func := "tapewright/tapewrightlaw05.TensorScales", spec := "tensorScales", inPlace := ["internal/bytealg.IndexByteString", "internal/bytealg.IndexString", "internal/reflectlite.TypeOf", "internal/reflectlite.ValueOf", "(internal/reflectlite.Value).Type", "(internal/reflectlite.Value).IsNil", "(internal/reflectlite.Value).Elem", "(internal/reflectlite.Value).Set"], unfollowed := true, recurses := true, named := ["tapewright/rat.errForm", "internal/bytealg.MaxLen", "tapewright/rat.errZero", "errors.errorType"], apart := false, laid := [("errors.errorType", laid_errors_errorType), ("tapewright/rat.errForm", laid_tapewright_rat_errForm), ("tapewright/rat.errZero", laid_tapewright_rat_errZero)] }
def TensorScalesSaid : Prop := tensorScalesRow.holds Tryz.pinned (OpenSpec.ofChange tensorScalesSpec)

/-- ITS FALSE NEIGHBOUR: 'it returns false'. Refute it at one input. -/
def tensorScalesWrong : ChangeSpec := { name := "tensorScales", fn := fun _ => fun
  | [d1, d2, d3] => { results := [.lit (.bool false)], args := [d1, d2, d3] }
  | _ => none }
def TensorScalesWrongFalsely : Prop := tensorScalesRow.holds Tryz.pinned (OpenSpec.ofChange tensorScalesWrong)

/-- 'tapewrightlaw05.TensorNone': WHATEVER THE INPUT: true; the input reads as it did. -/
def tensorNoneSpec : ChangeSpec := { name := "tensorNone", fn := fun _ => fun
  | [d] => { results := [.lit (.bool true)], args := [d] }
  | _ => none }
def tensorNoneRow : OpenClaim := { program := "ytlglpffoijdgbaagreatdoor", sum := "f5f7e57c8f3e7f450b435396bb24f7d779e90d994ff8a9c6302138f42a44288b", func := "tapewright/tapewrightlaw05.TensorNone", spec := "tensorNone", inPlace := ["internal/bytealg.IndexByteString", "internal/bytealg.IndexString", "internal/reflectlite.TypeOf", "internal/reflectlite.ValueOf", "(internal/reflectlite.Value).Type", "(internal/reflectlite.Value).IsNil", "(internal/reflectlite.Value).Elem", "(internal/reflectlite.Value).Set"], unfollowed := true, recurses := true, named := ["tapewright/rat.errForm", "internal/bytealg.MaxLen", "tapewright/rat.errZero", "errors.errorType"], apart := false, laid := [("errors.errorType", laid_errors_errorType), ("tapewright/rat.errForm", laid_tapewright_rat_errForm), ("tapewright/rat.errZero", laid_tapewright_rat_errZero)] }
def TensorNoneSaid : Prop := tensorNoneRow.holds Tryz.pinned (OpenSpec.ofChange tensorNoneSpec)

/-- ITS FALSE NEIGHBOUR: 'it returns false'. Refute it at one input. -/
def tensorNoneWrong : ChangeSpec := { name := "tensorNone", fn := fun _ => fun
  | [d] => { results := [.lit (.bool false)], args := [d] }
  | _ => none }
def TensorNoneWrongFalsely : Prop := tensorNoneRow.holds Tryz.pinned (OpenSpec.ofChange tensorNoneWrong)

/-- 'tapewrightlaw05.TensorLaws': WHATEVER THE INPUT: true; the input reads as it did. -/
def tensorLawsSpec : ChangeSpec := { name := "tensorLaws", fn := fun _ => fun
  | [d1, d2] => { results := [.lit (.bool true)], args := [d1, d2] }
  | _ => none }
def tensorLawsRow : OpenClaim := { program := "ytlglpffoijdgbaagreatdoor", sum := "f5f7e57c8f3e7f450b435396bb24f7d779e90d994ff8a9c6302138f42a44288b", func := "tapewright/tapewrightlaw05.TensorLaws", spec := "tensorLaws", inPlace := ["internal/bytealg.IndexByteString", "internal/bytealg.IndexString", "internal/reflectlite.TypeOf", "internal/reflectlite.ValueOf", "(internal/reflectlite.Value).Type", "(internal/reflectlite.Value).IsNil", "(internal/reflectlite.Value).Elem", "(internal/reflectlite.Value).Set"], unfollowed := true, recurses := true, named := ["tapewright/rat.errForm", "internal/bytealg.MaxLen", "tapewright/rat.errZero", "errors.errorType"], apart := false, laid := [("errors.errorType", laid_errors_errorType), ("tapewright/rat.errForm", laid_tapewright_rat_errForm), ("tapewright/rat.errZero", laid_tapewright_rat_errZero)] }
def TensorLawsSaid : Prop := tensorLawsRow.holds Tryz.pinned (OpenSpec.ofChange tensorLawsSpec)

/-- ITS FALSE NEIGHBOUR: 'it returns false'. Refute it at one input. -/
def tensorLawsWrong : ChangeSpec := { name := "tensorLaws", fn := fun _ => fun
  | [d1, d2] => { results := [.lit (.bool false)], args := [d1, d2] }
  | _ => none }
def TensorLawsWrongFalsely : Prop := tensorLawsRow.holds Tryz.pinned (OpenSpec.ofChange tensorLawsWrong)

/-- 'tapewrightlaw05.TensorSums': WHATEVER THE INPUT: true; the input reads as it did. -/
def tensorSumsSpec : ChangeSpec := { name := "tensorSums", fn := fun _ => fun
  | [d1, d2] => { results := [.lit (.bool true)], args := [d1, d2] }
  | _ => none }
def tensorSumsRow : OpenClaim := { program := "ytlglpffoijdgbaagreatdoor", sum := "f5f7e57c8f3e7f450b435396bb24f7d779e90d994ff8a9c6302138f42a44288b", func := "tapewright/tapewrightlaw05.TensorSums", spec := "tensorSums", inPlace := ["internal/bytealg.IndexByteString", "internal/bytealg.IndexString", "internal/reflectlite.TypeOf", "internal/reflectlite.ValueOf", "(internal/reflectlite.Value).Type", "(internal/reflectlite.Value).IsNil", "(internal/reflectlite.Value).Elem", "(internal/reflectlite.Value).Set"], unfollowed := true, recurses := true, named := ["tapewright/rat.errForm", "internal/bytealg.MaxLen", "tapewright/rat.errZero", "errors.errorType"], apart := false, laid := [("errors.errorType", laid_errors_errorType), ("tapewright/rat.errForm", laid_tapewright_rat_errForm), ("tapewright/rat.errZero", laid_tapewright_rat_errZero)] }
def TensorSumsSaid : Prop := tensorSumsRow.holds Tryz.pinned (OpenSpec.ofChange tensorSumsSpec)

/-- ITS FALSE NEIGHBOUR: 'it returns false'. Refute it at one input. -/
def tensorSumsWrong : ChangeSpec := { name := "tensorSums", fn := fun _ => fun
  | [d1, d2] => { results := [.lit (.bool false)], args := [d1, d2] }
  | _ => none }
def TensorSumsWrongFalsely : Prop := tensorSumsRow.holds Tryz.pinned (OpenSpec.ofChange tensorSumsWrong)

/-- 'tapewrightlaw05.TensorShapes': WHATEVER THE INPUT: true; the input reads as it did. -/
def tensorShapesSpec : ChangeSpec := { name := "tensorShapes", fn := fun _ => fun
  | [d1, d2, d3, d4] => { results := [.lit (.bool true)], args := [d1, d2, d3, d4] }
  | _ => none }
def tensorShapesRow : OpenClaim := { program := "ytlglpffoijdgbaagreatdoor", sum := "f5f7e57c8f3e7f450b435396bb24f7d779e90d994ff8a9c6302138f42a44288b", func := "tapewright/tapewrightlaw05.TensorShapes", spec := "tensorShapes", inPlace := ["internal/bytealg.IndexByteString", "internal/bytealg.IndexString", "internal/reflectlite.TypeOf", "internal/reflectlite.ValueOf", "(internal/reflectlite.Value).Type", "(internal/reflectlite.Value).IsNil", "(internal/reflectlite.Value).Elem", "(internal/reflectlite.Value).Set"], unfollowed := true, recurses := true, named := ["tapewright/rat.errForm", "internal/bytealg.MaxLen", "tapewright/rat.errZero", "errors.errorType"], apart := false, laid := [("errors.errorType", laid_errors_errorType), ("tapewright/rat.errForm", laid_tapewright_rat_errForm), ("tapewright/rat.errZero", laid_tapewright_rat_errZero)] }
def TensorShapesSaid : Prop := tensorShapesRow.holds Tryz.pinned (OpenSpec.ofChange tensorShapesSpec)

/-- ITS FALSE NEIGHBOUR: 'it returns false'. Refute it at one input. -/
def tensorShapesWrong : ChangeSpec := { name := "tensorShapes", fn := fun _ => fun
  | [d1, d2, d3, d4] => { results := [.lit (.bool false)], args := [d1, d2, d3, d4] }
  | _ => none }
def TensorShapesWrongFalsely : Prop := tensorShapesRow.holds Tryz.pinned (OpenSpec.ofChange tensorShapesWrong)

/-- 'tapewrightlaw05.TensorPowers': WHATEVER THE INPUT: true; the input reads as it did. -/
def tensorPowersSpec : ChangeSpec := { name := "tensorPowers", fn := fun _ => fun
  | [d] => { results := [.lit (.bool true)], args := [d] }
  | _ => none }
def tensorPowersRow : OpenClaim := { program := "ytlglpffoijdgbaagreatdoor", sum := "f5f7e57c8f3e7f450b435396bb24f7d779e90d994ff8a9c6302138f42a44288b", func := "tapewright/tapewrightlaw05.TensorPowers", spec := "tensorPowers", inPlace := ["internal/bytealg.IndexByteString", "internal/bytealg.IndexString", "internal/reflectlite.TypeOf", "internal/reflectlite.ValueOf", "(internal/reflectlite.Value).Type", "(internal/reflectlite.Value).IsNil", "(internal/reflectlite.Value).Elem", "(internal/reflectlite.Value).Set"], unfollowed := true, recurses := true, named := ["tapewright/rat.errForm", "internal/bytealg.MaxLen", "tapewright/rat.errZero", "errors.errorType"], apart := false, laid := [("errors.errorType", laid_errors_errorType), ("tapewright/rat.errForm", laid_tapewright_rat_errForm), ("tapewright/rat.errZero", laid_tapewright_rat_errZero)] }
def TensorPowersSaid : Prop := tensorPowersRow.holds Tryz.pinned (OpenSpec.ofChange tensorPowersSpec)

/-- ITS FALSE NEIGHBOUR: 'it returns false'. Refute it at one input. -/
def tensorPowersWrong : ChangeSpec := { name := "tensorPowers", fn := fun _ => fun
  | [d] => { results := [.lit (.bool false)], args := [d] }
  | _ => none }
def TensorPowersWrongFalsely : Prop := tensorPowersRow.holds Tryz.pinned (OpenSpec.ofChange tensorPowersWrong)

/-- 'tapewrightlaw05.TensorMaps': WHATEVER THE INPUT: true; the input reads as it did. -/
def tensorMapsSpec : ChangeSpec := { name := "tensorMaps", fn := fun _ => fun
  | [d1, d2, d3] => { results := [.lit (.bool true)], args := [d1, d2, d3] }
  | _ => none }
def tensorMapsRow : OpenClaim := { program := "ytlglpffoijdgbaagreatdoor", sum := "f5f7e57c8f3e7f450b435396bb24f7d779e90d994ff8a9c6302138f42a44288b", func := "tapewright/tapewrightlaw05.TensorMaps", spec := "tensorMaps", inPlace := ["internal/bytealg.IndexByteString", "internal/bytealg.IndexString", "internal/reflectlite.TypeOf", "internal/reflectlite.ValueOf", "(internal/reflectlite.Value).Type", "(internal/reflectlite.Value).IsNil", "(internal/reflectlite.Value).Elem", "(internal/reflectlite.Value).Set"], unfollowed := true, recurses := true, named := ["tapewright/rat.errForm", "internal/bytealg.MaxLen", "tapewright/rat.errZero", "errors.errorType"], apart := false, laid := [("errors.errorType", laid_errors_errorType), ("tapewright/rat.errForm", laid_tapewright_rat_errForm), ("tapewright/rat.errZero", laid_tapewright_rat_errZero)] }
def TensorMapsSaid : Prop := tensorMapsRow.holds Tryz.pinned (OpenSpec.ofChange tensorMapsSpec)

/-- ITS FALSE NEIGHBOUR: 'it returns false'. Refute it at one input. -/
def tensorMapsWrong : ChangeSpec := { name := "tensorMaps", fn := fun _ => fun
  | [d1, d2, d3] => { results := [.lit (.bool false)], args := [d1, d2, d3] }
  | _ => none }
def TensorMapsWrongFalsely : Prop := tensorMapsRow.holds Tryz.pinned (OpenSpec.ofChange tensorMapsWrong)

/- THE SECOND FORM. 'bulk': how many values and letters a reading holds, each counted each time it is reached (what is shared counts as often as it is met; a slice's spare places count too). A statement '..UptoSaid' is the law's where the arguments, and the package variables that the reading takes, are together of bulk at most 1048576: NARROWER than '..Said'. Prove '..Said' where nothing that the law and all that it calls make is longer than what came in: it says more and counts as full. Else prove '..UptoSaid'. A law counts once. -/
mutual
def uptoBulk {H : Type} : DataW H → Nat
  | .lit (.string bytes) => bytes.length + 1
  | .lit _ => 1
  | .nil => 1
  | .ptr d => uptoBulk d + 1
  | .slice elems spare => uptoBulkAll elems + uptoBulkAll spare + 1
  | .agg parts => uptoBulkAll parts + 1
  | .iface _ d => uptoBulk d + 1
  | .map entries => uptoBulkEntries entries + 1
  | .held _ => 1
def uptoBulkAll {H : Type} : List (DataW H) → Nat
  | [] => 0
  | d :: r => uptoBulk d + uptoBulkAll r
def uptoBulkEntries {H : Type} : List (Lit × DataW H) → Nat
  | [] => 0
  | x :: r => uptoBulkEntry x + uptoBulkEntries r
def uptoBulkEntry {H : Type} : Lit × DataW H → Nat
  | (.string bytes, d) => bytes.length + uptoBulk d + 1
  | (_, d) => uptoBulk d + 1
 end
def uptoSmall : (H : Type) → List (DataW H) → Bool := fun _ ds => decide (uptoBulkAll ds ≤ 1048576)
def OpenSpec.upto (s : _root_.Go.ChangeSpec) : _root_.Go.OpenSpec := { _root_.Go.OpenSpec.ofChange s with cond := some uptoSmall }

/-- 'tapewrightlaw05.TensorZips', WHERE WHAT IT READS IS OF BULK AT MOST 1048576: true; the input reads as it did. -/
def tensorZipsUptoRow : OpenClaim := { program := "ytlglpffoijdgbaagreatdoor", sum := "f5f7e57c8f3e7f450b435396bb24f7d779e90d994ff8a9c6302138f42a44288b", func := "tapewright/tapewrightlaw05.TensorZips", spec := "tensorZips", inPlace := ["internal/bytealg.IndexByteString", "internal/bytealg.IndexString", "internal/reflectlite.TypeOf", "internal/reflectlite.ValueOf", "(internal/reflectlite.Value).Type", "(internal/reflectlite.Value).IsNil", "(internal/reflectlite.Value).Elem", "(internal/reflectlite.Value).Set"], unfollowed := true, recurses := true, named := ["tapewright/rat.errForm", "internal/bytealg.MaxLen", "tapewright/rat.errZero", "errors.errorType"], apart := false, laid := [("errors.errorType", laid_errors_errorType), ("tapewright/rat.errForm", laid_tapewright_rat_errForm), ("tapewright/rat.errZero", laid_tapewright_rat_errZero)], narrowed := true }
def TensorZipsUptoSaid : Prop := tensorZipsUptoRow.holds Tryz.pinned (OpenSpec.upto tensorZipsSpec)

/-- 'tapewrightlaw05.TensorTimes', WHERE WHAT IT READS IS OF BULK AT MOST 1048576: true; the input reads as it did. -/
def tensorTimesUptoRow : OpenClaim := { program := "ytlglpffoijdgbaagreatdoor", sum := "f5f7e57c8f3e7f450b435396bb24f7d779e90d994ff8a9c6302138f42a44288b", func := "tapewright/tapewrightlaw05.TensorTimes", spec := "tensorTimes", inPlace := ["internal/bytealg.IndexByteString", "internal/bytealg.IndexString", "internal/reflectlite.TypeOf", "internal/reflectlite.ValueOf", "(internal/reflectlite.Value).Type", "(internal/reflectlite.Value).IsNil", "(internal/reflectlite.Value).Elem", "(internal/reflectlite.Value).Set"], unfollowed := true, recurses := true, named := ["tapewright/rat.errForm", "internal/bytealg.MaxLen", "tapewright/rat.errZero", "errors.errorType"], apart := false, laid := [("errors.errorType", laid_errors_errorType), ("tapewright/rat.errForm", laid_tapewright_rat_errForm), ("tapewright/rat.errZero", laid_tapewright_rat_errZero)], narrowed := true }
def TensorTimesUptoSaid : Prop := tensorTimesUptoRow.holds Tryz.pinned (OpenSpec.upto tensorTimesSpec)

/-- 'tapewrightlaw05.TensorScales', WHERE WHAT IT READS IS OF BULK AT MOST 1048576: true; the input reads as it did. -/
def tensorScalesUptoRow : OpenClaim := { program := "ytlglpffoijdgbaagreatdoor", sum := "f5f7e57c8f3e7f450b435396bb24f7d779e90d994ff8a9c6302138f42a44288b", func := "tapewright/tapewrightlaw05.TensorScales", spec := "tensorScales", inPlace := ["internal/bytealg.IndexByteString", "internal/bytealg.IndexString", "internal/reflectlite.TypeOf", "internal/reflectlite.ValueOf", "(internal/reflectlite.Value).Type", "(internal/reflectlite.Value).IsNil", "(internal/reflectlite.Value).Elem", "(internal/reflectlite.Value).Set"], unfollowed := true, recurses := true, named := ["tapewright/rat.errForm", "internal/bytealg.MaxLen", "tapewright/rat.errZero", "errors.errorType"], apart := false, laid := [("errors.errorType", laid_errors_errorType), ("tapewright/rat.errForm", laid_tapewright_rat_errForm), ("tapewright/rat.errZero", laid_tapewright_rat_errZero)], narrowed := true }
def TensorScalesUptoSaid : Prop := tensorScalesUptoRow.holds Tryz.pinned (OpenSpec.upto tensorScalesSpec)

/-- 'tapewrightlaw05.TensorNone', WHERE WHAT IT READS IS OF BULK AT MOST 1048576: true; the input reads as it did. -/
def tensorNoneUptoRow : OpenClaim := { program := "ytlglpffoijdgbaagreatdoor", sum := "f5f7e57c8f3e7f450b435396bb24f7d779e90d994ff8a9c6302138f42a44288b", func := "tapewright/tapewrightlaw05.TensorNone", spec := "tensorNone", inPlace := ["internal/bytealg.IndexByteString", "internal/bytealg.IndexString", "internal/reflectlite.TypeOf", "internal/reflectlite.ValueOf", "(internal/reflectlite.Value).Type", "(internal/reflectlite.Value).IsNil", "(internal/reflectlite.Value).Elem", "(internal/reflectlite.Value).Set"], unfollowed := true, recurses := true, named := ["tapewright/rat.errForm", "internal/bytealg.MaxLen", "tapewright/rat.errZero", "errors.errorType"], apart := false, laid := [("errors.errorType", laid_errors_errorType), ("tapewright/rat.errForm", laid_tapewright_rat_errForm), ("tapewright/rat.errZero", laid_tapewright_rat_errZero)], narrowed := true }
def TensorNoneUptoSaid : Prop := tensorNoneUptoRow.holds Tryz.pinned (OpenSpec.upto tensorNoneSpec)

/-- 'tapewrightlaw05.TensorLaws', WHERE WHAT IT READS IS OF BULK AT MOST 1048576: true; the input reads as it did. -/
def tensorLawsUptoRow : OpenClaim := { program := "ytlglpffoijdgbaagreatdoor", sum := "f5f7e57c8f3e7f450b435396bb24f7d779e90d994ff8a9c6302138f42a44288b", func := "tapewright/tapewrightlaw05.TensorLaws", spec := "tensorLaws", inPlace := ["internal/bytealg.IndexByteString", "internal/bytealg.IndexString", "internal/reflectlite.TypeOf", "internal/reflectlite.ValueOf", "(internal/reflectlite.Value).Type", "(internal/reflectlite.Value).IsNil", "(internal/reflectlite.Value).Elem", "(internal/reflectlite.Value).Set"], unfollowed := true, recurses := true, named := ["tapewright/rat.errForm", "internal/bytealg.MaxLen", "tapewright/rat.errZero", "errors.errorType"], apart := false, laid := [("errors.errorType", laid_errors_errorType), ("tapewright/rat.errForm", laid_tapewright_rat_errForm), ("tapewright/rat.errZero", laid_tapewright_rat_errZero)], narrowed := true }
def TensorLawsUptoSaid : Prop := tensorLawsUptoRow.holds Tryz.pinned (OpenSpec.upto tensorLawsSpec)

/-- 'tapewrightlaw05.TensorSums', WHERE WHAT IT READS IS OF BULK AT MOST 1048576: true; the input reads as it did. -/
def tensorSumsUptoRow : OpenClaim := { program := "ytlglpffoijdgbaagreatdoor", sum := "f5f7e57c8f3e7f450b435396bb24f7d779e90d994ff8a9c6302138f42a44288b", func := "tapewright/tapewrightlaw05.TensorSums", spec := "tensorSums", inPlace := ["internal/bytealg.IndexByteString", "internal/bytealg.IndexString", "internal/reflectlite.TypeOf", "internal/reflectlite.ValueOf", "(internal/reflectlite.Value).Type", "(internal/reflectlite.Value).IsNil", "(internal/reflectlite.Value).Elem", "(internal/reflectlite.Value).Set"], unfollowed := true, recurses := true, named := ["tapewright/rat.errForm", "internal/bytealg.MaxLen", "tapewright/rat.errZero", "errors.errorType"], apart := false, laid := [("errors.errorType", laid_errors_errorType), ("tapewright/rat.errForm", laid_tapewright_rat_errForm), ("tapewright/rat.errZero", laid_tapewright_rat_errZero)], narrowed := true }
def TensorSumsUptoSaid : Prop := tensorSumsUptoRow.holds Tryz.pinned (OpenSpec.upto tensorSumsSpec)

/-- 'tapewrightlaw05.TensorShapes', WHERE WHAT IT READS IS OF BULK AT MOST 1048576: true; the input reads as it did. -/
def tensorShapesUptoRow : OpenClaim := { program := "ytlglpffoijdgbaagreatdoor", sum := "f5f7e57c8f3e7f450b435396bb24f7d779e90d994ff8a9c6302138f42a44288b", func := "tapewright/tapewrightlaw05.TensorShapes", spec := "tensorShapes", inPlace := ["internal/bytealg.IndexByteString", "internal/bytealg.IndexString", "internal/reflectlite.TypeOf", "internal/reflectlite.ValueOf", "(internal/reflectlite.Value).Type", "(internal/reflectlite.Value).IsNil", "(internal/reflectlite.Value).Elem", "(internal/reflectlite.Value).Set"], unfollowed := true, recurses := true, named := ["tapewright/rat.errForm", "internal/bytealg.MaxLen", "tapewright/rat.errZero", "errors.errorType"], apart := false, laid := [("errors.errorType", laid_errors_errorType), ("tapewright/rat.errForm", laid_tapewright_rat_errForm), ("tapewright/rat.errZero", laid_tapewright_rat_errZero)], narrowed := true }
def TensorShapesUptoSaid : Prop := tensorShapesUptoRow.holds Tryz.pinned (OpenSpec.upto tensorShapesSpec)

/-- 'tapewrightlaw05.TensorPowers', WHERE WHAT IT READS IS OF BULK AT MOST 1048576: true; the input reads as it did. -/
def tensorPowersUptoRow : OpenClaim := { program := "ytlglpffoijdgbaagreatdoor", sum := "f5f7e57c8f3e7f450b435396bb24f7d779e90d994ff8a9c6302138f42a44288b", func := "tapewright/tapewrightlaw05.TensorPowers", spec := "tensorPowers", inPlace := ["internal/bytealg.IndexByteString", "internal/bytealg.IndexString", "internal/reflectlite.TypeOf", "internal/reflectlite.ValueOf", "(internal/reflectlite.Value).Type", "(internal/reflectlite.Value).IsNil", "(internal/reflectlite.Value).Elem", "(internal/reflectlite.Value).Set"], unfollowed := true, recurses := true, named := ["tapewright/rat.errForm", "internal/bytealg.MaxLen", "tapewright/rat.errZero", "errors.errorType"], apart := false, laid := [("errors.errorType", laid_errors_errorType), ("tapewright/rat.errForm", laid_tapewright_rat_errForm), ("tapewright/rat.errZero", laid_tapewright_rat_errZero)], narrowed := true }
def TensorPowersUptoSaid : Prop := tensorPowersUptoRow.holds Tryz.pinned (OpenSpec.upto tensorPowersSpec)

/-- 'tapewrightlaw05.TensorMaps', WHERE WHAT IT READS IS OF BULK AT MOST 1048576: true; the input reads as it did. -/
def tensorMapsUptoRow : OpenClaim := { program := "ytlglpffoijdgbaagreatdoor", sum := "f5f7e57c8f3e7f450b435396bb24f7d779e90d994ff8a9c6302138f42a44288b", func := "tapewright/tapewrightlaw05.TensorMaps", spec := "tensorMaps", inPlace := ["internal/bytealg.IndexByteString", "internal/bytealg.IndexString", "internal/reflectlite.TypeOf", "internal/reflectlite.ValueOf", "(internal/reflectlite.Value).Type", "(internal/reflectlite.Value).IsNil", "(internal/reflectlite.Value).Elem", "(internal/reflectlite.Value).Set"], unfollowed := true, recurses := true, named := ["tapewright/rat.errForm", "internal/bytealg.MaxLen", "tapewright/rat.errZero", "errors.errorType"], apart := false, laid := [("errors.errorType", laid_errors_errorType), ("tapewright/rat.errForm", laid_tapewright_rat_errForm), ("tapewright/rat.errZero", laid_tapewright_rat_errZero)], narrowed := true }
def TensorMapsUptoSaid : Prop := tensorMapsUptoRow.holds Tryz.pinned (OpenSpec.upto tensorMapsSpec)

end Rows
end Go.Proofs.YtlglpffoijdgbaaGreatDoor

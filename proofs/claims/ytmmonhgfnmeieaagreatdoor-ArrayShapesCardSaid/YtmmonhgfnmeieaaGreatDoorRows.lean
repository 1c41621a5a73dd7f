/-
  NARROWER THAN 'FOR EVERY INPUT', by the rows' own cells (each row's printed sentence says how): ArrayBack: laid · ArrayProducts: laid · ArrayTurns: laid · ArrayUnits: laid · ArrayRows: laid · ArrayTotals: laid · ArrayLinear: laid · ArrayScalars: laid · ArrayShapes: laid.
  DERIVED. THE GIVEN ROWS OF THIS SEAT. 9 by the template 'for every input the law returns true; each argument reads behind the call as it read before'; 0 by the template 'total and deterministic' (their statements: YtmmonhgfnmeieaaGreatDoorTotals.lean).
  GIVEN WITH THE SEED: the statements are not yours to turn. If you find one false, say at which input.
  Laid BY PROGRAM, IN A SANDBOX (cutbox-rows.mjs): the forced cells as the released guide's own fill.sh prints them over the translation 2e431bc4a9429a0a… (all of the seat's roots in one cut). By AI agents, Wed Nov 11 2026. No macro, syntax, notation, axiom, sorry.
-/
import Derived.Test.YtmmonhgfnmeieaaGreatDoorChecked
import GoSem.Claim
import GoSem.ClaimJoined
import GoSem.ClaimMapViews
import Derived.JoinedTies
import Derived.KernelRfl
namespace Go.Proofs.YtmmonhgfnmeieaaGreatDoor
/- THE CELL 'sum', in the pinned program and in every row, IS THE sha256 OF THE DUMP (.gsa) THAT YtmmonhgfnmeieaaGreatDoorProg.lean LOADS. Nothing in Lean hashes anything: it is a label: what it is worth is what the hold of that sum in a sandbox is worth. -/
noncomputable def Tryz.pinned : Pinned := { name := "ytmmonhgfnmeieaagreatdoor", sum := "2e431bc4a9429a0a76838cd0766f3326fefeed0809580a60e2eb67775d3bd9cd", checked := Tryz.checked }
namespace Rows
def none {H : Type} : Left H := { results := [], args := [] }

/- WHAT THE LISTED PACKAGE-LEVEL VARIABLES READ AS WHEN THE CALL BEGINS. Each datum BY PROGRAM (the guide's laid-datum.mjs) off the statement by which the dump's own 'gosem.cut.vars' lays the variable. In a bare row this is a premise. The card (YtmmonhgfnmeieaaGreatDoorCards.lean) ties it to the program's text. -/
def laid_errors_errorType {H : Type} : DataW H := .iface "internal/reflectlite.rtype" (.agg [.ptr (.lit (.string [101, 114, 114, 111, 114]))])
def laid_tapewright_rat_errForm {H : Type} : DataW H := .iface "*errors.errorString" (.ptr (.agg [.lit (.string [110, 111, 32, 114, 97, 116, 105, 111, 110, 97, 108])]))
def laid_tapewright_rat_errZero {H : Type} : DataW H := .iface "*errors.errorString" (.ptr (.agg [.lit (.string [98, 121, 32, 110, 111, 117, 103, 104, 116])]))

/-- 'tapewrightlaw06.ArrayBack': WHATEVER THE INPUT: true; the input reads as it did. -/
def arrayBackSpec : ChangeSpec := { name := "arrayBack", fn := fun _ => fun
  | [d1, d2] => { results := [.lit (.bool true)], args := [d1, d2] }
  | _ => none }
def arrayBackRow : OpenClaim := { program := "ytmmonhgfnmeieaagreatdoor", sum := "2e431bc4a9429a0a76838cd0766f3326fefeed0809580a60e2eb67775d3bd9cd", func := "tapewright/tapewrightlaw06.ArrayBack", spec := "arrayBack", inPlace := ["internal/bytealg.IndexByteString", "internal/bytealg.IndexString", "internal/reflectlite.TypeOf", "internal/reflectlite.ValueOf", "(internal/reflectlite.Value).Type", "(internal/reflectlite.Value).IsNil", "(internal/reflectlite.Value).Elem", "(internal/reflectlite.Value).Set"], unfollowed := true, recurses := true, named := ["tapewright/rat.errForm", "internal/bytealg.MaxLen", "tapewright/rat.errZero", "errors.errorType"], apart := false, laid := [("errors.errorType", laid_errors_errorType), ("tapewright/rat.errForm", laid_tapewright_rat_errForm), ("tapewright/rat.errZero", laid_tapewright_rat_errZero)] }
def ArrayBackSaid : Prop := arrayBackRow.holds Tryz.pinned (OpenSpec.ofChange arrayBackSpec)

/-- ITS FALSE NEIGHBOUR: 'it returns false'. Refute it at one input. -/
def arrayBackWrong : ChangeSpec := { name := "arrayBack", fn := fun _ => fun
  | [d1, d2] => { results := [.lit (.bool false)], args := [d1, d2] }
  | _ => none }
def ArrayBackWrongFalsely : Prop := arrayBackRow.holds Tryz.pinned (OpenSpec.ofChange arrayBackWrong)

/-- 'tapewrightlaw06.ArrayProducts': WHATEVER THE INPUT: true; the input reads as it did. -/
def arrayProductsSpec : ChangeSpec := { name := "arrayProducts", fn := fun _ => fun
  | [d1, d2] => { results := [.lit (.bool true)], args := [d1, d2] }
  | _ => none }
def arrayProductsRow : OpenClaim := { program := "ytmmonhgfnmeieaagreatdoor", sum := "2e431bc4a9429a0a76838cd0766f3326fefeed0809580a60e2eb67775d3bd9cd", func := "tapewright/tapewrightlaw06.ArrayProducts", spec := "arrayProducts", inPlace := ["internal/bytealg.IndexByteString", "internal/bytealg.IndexString", "internal/reflectlite.TypeOf", "internal/reflectlite.ValueOf", "(internal/reflectlite.Value).Type", "(internal/reflectlite.Value).IsNil", "(internal/reflectlite.Value).Elem", "(internal/reflectlite.Value).Set"], unfollowed := true, recurses := true, named := ["tapewright/rat.errForm", "internal/bytealg.MaxLen", "tapewright/rat.errZero", "errors.errorType"], apart := false, laid := [("errors.errorType", laid_errors_errorType), ("tapewright/rat.errForm", laid_tapewright_rat_errForm), ("tapewright/rat.errZero", laid_tapewright_rat_errZero)] }
def ArrayProductsSaid : Prop := arrayProductsRow.holds Tryz.pinned (OpenSpec.ofChange arrayProductsSpec)

/-- ITS FALSE NEIGHBOUR: 'it returns false'. Refute it at one input. -/
def arrayProductsWrong : ChangeSpec := { name := "arrayProducts", fn := fun _ => fun
  | [d1, d2] => { results := [.lit (.bool false)], args := [d1, d2] }
  | _ => none }
def ArrayProductsWrongFalsely : Prop := arrayProductsRow.holds Tryz.pinned (OpenSpec.ofChange arrayProductsWrong)

/-- 'tapewrightlaw06.ArrayTurns': WHATEVER THE INPUT: true; the input reads as it did. -/
def arrayTurnsSpec : ChangeSpec := { name := "arrayTurns", fn := fun _ => fun
  | [d1, d2] => { results := [.lit (.bool true)], args := [d1, d2] }
  | _ => none }
def arrayTurnsRow : OpenClaim := { program := "ytmmonhgfnmeieaagreatdoor", sum := "2e431bc4a9429a0a76838cd0766f3326fefeed0809580a60e2eb67775d3bd9cd", func := "tapewright/tapewrightlaw06.ArrayTurns", spec := "arrayTurns", inPlace := ["internal/bytealg.IndexByteString", "internal/bytealg.IndexString", "internal/reflectlite.TypeOf", "internal/reflectlite.ValueOf", "(internal/reflectlite.Value).Type", "(internal/reflectlite.Value).IsNil", "(internal/reflectlite.Value).Elem", "(internal/reflectlite.Value).Set"], unfollowed := true, recurses := true, named := ["tapewright/rat.errForm", "internal/bytealg.MaxLen", "tapewright/rat.errZero", "errors.errorType"], apart := false, laid := [("errors.errorType", laid_errors_errorType), ("tapewright/rat.errForm", laid_tapewright_rat_errForm), ("tapewright/rat.errZero", laid_tapewright_rat_errZero)] }
def ArrayTurnsSaid : Prop := arrayTurnsRow.holds Tryz.pinned (OpenSpec.ofChange arrayTurnsSpec)

/-- ITS FALSE NEIGHBOUR: 'it returns false'. Refute it at one input. -/
def arrayTurnsWrong : ChangeSpec := { name := "arrayTurns", fn := fun _ => fun
  | [d1, d2] => { results := [.lit (.bool false)], args := [d1, d2] }
  | _ => none }
def ArrayTurnsWrongFalsely : Prop := arrayTurnsRow.holds Tryz.pinned (OpenSpec.ofChange arrayTurnsWrong)

/-- 'tapewrightlaw06.ArrayUnits': WHATEVER THE INPUT: true; the input reads as it did. -/
def arrayUnitsSpec : ChangeSpec := { name := "arrayUnits", fn := fun _ => fun
  | [d] => { results := [.lit (.bool true)], args := [d] }
  | _ => none }
def arrayUnitsRow : OpenClaim := { program := "ytmmonhgfnmeieaagreatdoor", sum := "2e431bc4a9429a0a76838cd0766f3326fefeed0809580a60e2eb67775d3bd9cd", func := "tapewright/tapewrightlaw06.ArrayUnits", spec := "arrayUnits", inPlace := ["internal/bytealg.IndexByteString", "internal/bytealg.IndexString", "internal/reflectlite.TypeOf", "internal/reflectlite.ValueOf", "(internal/reflectlite.Value).Type", "(internal/reflectlite.Value).IsNil", "(internal/reflectlite.Value).Elem", "(internal/reflectlite.Value).Set"], unfollowed := true, recurses := true, named := ["tapewright/rat.errForm", "internal/bytealg.MaxLen", "tapewright/rat.errZero", "errors.errorType"], apart := false, laid := [("errors.errorType", laid_errors_errorType), ("tapewright/rat.errForm", laid_tapewright_rat_errForm), ("tapewright/rat.errZero", laid_tapewright_rat_errZero)] }
def ArrayUnitsSaid : Prop := arrayUnitsRow.holds Tryz.pinned (OpenSpec.ofChange arrayUnitsSpec)

/-- ITS FALSE NEIGHBOUR: 'it returns false'. Refute it at one input. -/
def arrayUnitsWrong : ChangeSpec := { name := "arrayUnits", fn := fun _ => fun
  | [d] => { results := [.lit (.bool false)], args := [d] }
  | _ => none }
def ArrayUnitsWrongFalsely : Prop := arrayUnitsRow.holds Tryz.pinned (OpenSpec.ofChange arrayUnitsWrong)

/-- 'tapewrightlaw06.ArrayRows': WHATEVER THE INPUT: true; the input reads as it did. -/
def arrayRowsSpec : ChangeSpec := { name := "arrayRows", fn := fun _ => fun
  | [d] => { results := [.lit (.bool true)], args := [d] }
  | _ => none }
def arrayRowsRow : OpenClaim := { program := "ytmmonhgfnmeieaagreatdoor", sum := "2e431bc4a9429a0a76838cd0766f3326fefeed0809580a60e2eb67775d3bd9cd", func := "tapewright/tapewrightlaw06.ArrayRows", spec := "arrayRows", inPlace := ["internal/bytealg.IndexByteString", "internal/bytealg.IndexString", "internal/reflectlite.TypeOf", "internal/reflectlite.ValueOf", "(internal/reflectlite.Value).Type", "(internal/reflectlite.Value).IsNil", "(internal/reflectlite.Value).Elem", "(internal/reflectlite.Value).Set"], unfollowed := true, recurses := true, named := ["tapewright/rat.errForm", "internal/bytealg.MaxLen", "tapewright/rat.errZero", "errors.errorType"], apart := false, laid := [("errors.errorType", laid_errors_errorType), ("tapewright/rat.errForm", laid_tapewright_rat_errForm), ("tapewright/rat.errZero", laid_tapewright_rat_errZero)] }
def ArrayRowsSaid : Prop := arrayRowsRow.holds Tryz.pinned (OpenSpec.ofChange arrayRowsSpec)

/-- ITS FALSE NEIGHBOUR: 'it returns false'. Refute it at one input. -/
def arrayRowsWrong : ChangeSpec := { name := "arrayRows", fn := fun _ => fun
  | [d] => { results := [.lit (.bool false)], args := [d] }
  | _ => none }
def ArrayRowsWrongFalsely : Prop := arrayRowsRow.holds Tryz.pinned (OpenSpec.ofChange arrayRowsWrong)

/-- 'tapewrightlaw06.ArrayTotals': WHATEVER THE INPUT: true; the input reads as it did. -/
def arrayTotalsSpec : ChangeSpec := { name := "arrayTotals", fn := fun _ => fun
  | [d1, d2] => { results := [.lit (.bool true)], args := [d1, d2] }
  | _ => none }
def arrayTotalsRow : OpenClaim := { program := "ytmmonhgfnmeieaagreatdoor", sum := "2e431bc4a9429a0a76838cd0766f3326fefeed0809580a60e2eb67775d3bd9cd", func := "tapewright/tapewrightlaw06.ArrayTotals", spec := "arrayTotals", inPlace := ["internal/bytealg.IndexByteString", "internal/bytealg.IndexString", "internal/reflectlite.TypeOf", "internal/reflectlite.ValueOf", "(internal/reflectlite.Value).Type", "(internal/reflectlite.Value).IsNil", "(internal/reflectlite.Value).Elem", "(internal/reflectlite.Value).Set"], unfollowed := true, recurses := true, named := ["tapewright/rat.errForm", "internal/bytealg.MaxLen", "tapewright/rat.errZero", "errors.errorType"], apart := false, laid := [("errors.errorType", laid_errors_errorType), ("tapewright/rat.errForm", laid_tapewright_rat_errForm), ("tapewright/rat.errZero", laid_tapewright_rat_errZero)] }
def ArrayTotalsSaid : Prop := arrayTotalsRow.holds Tryz.pinned (OpenSpec.ofChange arrayTotalsSpec)

/-- ITS FALSE NEIGHBOUR: 'it returns false'. Refute it at one input. -/
def arrayTotalsWrong : ChangeSpec := { name := "arrayTotals", fn := fun _ => fun
  | [d1, d2] => { results := [.lit (.bool false)], args := [d1, d2] }
  | _ => none }
def ArrayTotalsWrongFalsely : Prop := arrayTotalsRow.holds Tryz.pinned (OpenSpec.ofChange arrayTotalsWrong)

/-- 'tapewrightlaw06.ArrayLinear': WHATEVER THE INPUT: true; the input reads as it did. -/
def arrayLinearSpec : ChangeSpec := { name := "arrayLinear", fn := fun _ => fun
  | [d1, d2, d3] => { results := [.lit (.bool true)], args := [d1, d2, d3] }
  | _ => none }
def arrayLinearRow : OpenClaim := { program := "ytmmonhgfnmeieaagreatdoor", sum := "2e431bc4a9429a0a76838cd0766f3326fefeed0809580a60e2eb67775d3bd9cd", func := "tapewright/tapewrightlaw06.ArrayLinear", spec := "arrayLinear", inPlace := ["internal/bytealg.IndexByteString", "internal/bytealg.IndexString", "internal/reflectlite.TypeOf", "internal/reflectlite.ValueOf", "(internal/reflectlite.Value).Type", "(internal/reflectlite.Value).IsNil", "(internal/reflectlite.Value).Elem", "(internal/reflectlite.Value).Set"], unfollowed := true, recurses := true, named := ["tapewright/rat.errForm", "internal/bytealg.MaxLen", "tapewright/rat.errZero", "errors.errorType"], apart := false, laid := [("errors.errorType", laid_errors_errorType), ("tapewright/rat.errForm", laid_tapewright_rat_errForm), ("tapewright/rat.errZero", laid_tapewright_rat_errZero)] }
def ArrayLinearSaid : Prop := arrayLinearRow.holds Tryz.pinned (OpenSpec.ofChange arrayLinearSpec)

/-- ITS FALSE NEIGHBOUR: 'it returns false'. Refute it at one input. -/
def arrayLinearWrong : ChangeSpec := { name := "arrayLinear", fn := fun _ => fun
  | [d1, d2, d3] => { results := [.lit (.bool false)], args := [d1, d2, d3] }
  | _ => none }
def ArrayLinearWrongFalsely : Prop := arrayLinearRow.holds Tryz.pinned (OpenSpec.ofChange arrayLinearWrong)

/-- 'tapewrightlaw06.ArrayScalars': WHATEVER THE INPUT: true; the input reads as it did. -/
def arrayScalarsSpec : ChangeSpec := { name := "arrayScalars", fn := fun _ => fun
  | [d1, d2] => { results := [.lit (.bool true)], args := [d1, d2] }
  | _ => none }
def arrayScalarsRow : OpenClaim := { program := "ytmmonhgfnmeieaagreatdoor", sum := "2e431bc4a9429a0a76838cd0766f3326fefeed0809580a60e2eb67775d3bd9cd", func := "tapewright/tapewrightlaw06.ArrayScalars", spec := "arrayScalars", inPlace := ["internal/bytealg.IndexByteString", "internal/bytealg.IndexString", "internal/reflectlite.TypeOf", "internal/reflectlite.ValueOf", "(internal/reflectlite.Value).Type", "(internal/reflectlite.Value).IsNil", "(internal/reflectlite.Value).Elem", "(internal/reflectlite.Value).Set"], unfollowed := true, recurses := true, named := ["tapewright/rat.errForm", "internal/bytealg.MaxLen", "tapewright/rat.errZero", "errors.errorType"], apart := false, laid := [("errors.errorType", laid_errors_errorType), ("tapewright/rat.errForm", laid_tapewright_rat_errForm), ("tapewright/rat.errZero", laid_tapewright_rat_errZero)] }
def ArrayScalarsSaid : Prop := arrayScalarsRow.holds Tryz.pinned (OpenSpec.ofChange arrayScalarsSpec)

/-- ITS FALSE NEIGHBOUR: 'it returns false'. Refute it at one input. -/
def arrayScalarsWrong : ChangeSpec := { name := "arrayScalars", fn := fun _ => fun
  | [d1, d2] => { results := [.lit (.bool false)], args := [d1, d2] }
  | _ => none }
def ArrayScalarsWrongFalsely : Prop := arrayScalarsRow.holds Tryz.pinned (OpenSpec.ofChange arrayScalarsWrong)

/-- 'tapewrightlaw06.ArrayShapes': WHATEVER THE INPUT: true; the input reads as it did. -/
def arrayShapesSpec : ChangeSpec := { name := "arrayShapes", fn := fun _ => fun
  | [d1, d2] => { results := [.lit (.bool true)], args := [d1, d2] }
  | _ => none }
def arrayShapesRow : OpenClaim := { program := "ytmmonhgfnmeieaagreatdoor", sum := "2e431bc4a9429a0a76838cd0766f3326fefeed0809580a60e2eb67775d3bd9cd", func := "tapewright/tapewrightlaw06.ArrayShapes", spec := "arrayShapes", inPlace := ["internal/bytealg.IndexByteString", "internal/bytealg.IndexString", "internal/reflectlite.TypeOf", "internal/reflectlite.ValueOf", "(internal/reflectlite.Value).Type", "(internal/reflectlite.Value).IsNil", "(internal/reflectlite.Value).Elem", "(internal/reflectlite.Value).Set"], unfollowed := true, recurses := true, named := ["tapewright/rat.errForm", "internal/bytealg.MaxLen", "tapewright/rat.errZero", "errors.errorType"], apart := false, laid := [("errors.errorType", laid_errors_errorType), ("tapewright/rat.errForm", laid_tapewright_rat_errForm), ("tapewright/rat.errZero", laid_tapewright_rat_errZero)] }
def ArrayShapesSaid : Prop := arrayShapesRow.holds Tryz.pinned (OpenSpec.ofChange arrayShapesSpec)

/-- ITS FALSE NEIGHBOUR: 'it returns false'. Refute it at one input. -/
def arrayShapesWrong : ChangeSpec := { name := "arrayShapes", fn := fun _ => fun
  | [d1, d2] => { results := [.lit (.bool false)], args := [d1, d2] }
  | _ => none }
def ArrayShapesWrongFalsely : Prop := arrayShapesRow.holds Tryz.pinned (OpenSpec.ofChange arrayShapesWrong)

/- THE SECOND FORM. 'bulk': how many values and letters a reading holds, each counted each time it is reached (what is shared counts as often as it is met; a slice's spare places count too). A statement '..UptoSaid' is the law's where the arguments, and the package variables that the reading takes, are together of bulk at most 1048576: NARROWER than '..Said'. Prove '..Said' where nothing that the law and all that it calls make is longer than what came in: it says more and counts as full. Else prove '..UptoSaid'. A law counts once. -/
mutual
def uptoBulk {H : Type} : DataW H → Nat
  | .lit (.string bytes) => bytes.length + 1
  | .lit _ => 1
  | .nil => 1
  | .ptr d => uptoBulk d + 1
  | .slice elems spare => uptoBulkAll elems + uptoBulkAll spare + 1
  | .agg parts => uptoBulkAll parts + 1
  | .iface _ d => uptoBulk d + 1
  | .map entries => uptoBulkEntries entries + 1
  | .held _ => 1
def uptoBulkAll {H : Type} : List (DataW H) → Nat
  | [] => 0
  | d :: r => uptoBulk d + uptoBulkAll r
def uptoBulkEntries {H : Type} : List (Lit × DataW H) → Nat
  | [] => 0
  | x :: r => uptoBulkEntry x + uptoBulkEntries r
def uptoBulkEntry {H : Type} : Lit × DataW H → Nat
  | (.string bytes, d) => bytes.length + uptoBulk d + 1
  | (_, d) => uptoBulk d + 1
 end
def uptoSmall : (H : Type) → List (DataW H) → Bool := fun _ ds => decide (uptoBulkAll ds ≤ 1048576)
def OpenSpec.upto (s : _root_.Go.ChangeSpec) : _root_.Go.OpenSpec := { _root_.Go.OpenSpec.ofChange s with cond := some uptoSmall }

/-- 'tapewrightlaw06.ArrayBack', WHERE WHAT IT READS IS OF BULK AT MOST 1048576: true; the input reads as it did. -/
def arrayBackUptoRow : OpenClaim := { program := "ytmmonhgfnmeieaagreatdoor", sum := "2e431bc4a9429a0a76838cd0766f3326fefeed0809580a60e2eb67775d3bd9cd", func := "tapewright/tapewrightlaw06.ArrayBack", spec := "arrayBack", inPlace := ["internal/bytealg.IndexByteString", "internal/bytealg.IndexString", "internal/reflectlite.TypeOf", "internal/reflectlite.ValueOf", "(internal/reflectlite.Value).Type", "(internal/reflectlite.Value).IsNil", "(internal/reflectlite.Value).Elem", "(internal/reflectlite.Value).Set"], unfollowed := true, recurses := true, named := ["tapewright/rat.errForm", "internal/bytealg.MaxLen", "tapewright/rat.errZero", "errors.errorType"], apart := false, laid := [("errors.errorType", laid_errors_errorType), ("tapewright/rat.errForm", laid_tapewright_rat_errForm), ("tapewright/rat.errZero", laid_tapewright_rat_errZero)], narrowed := true }
def ArrayBackUptoSaid : Prop := arrayBackUptoRow.holds Tryz.pinned (OpenSpec.upto arrayBackSpec)

/-- 'tapewrightlaw06.ArrayProducts', WHERE WHAT IT READS IS OF BULK AT MOST 1048576: true; the input reads as it did. -/
def arrayProductsUptoRow : OpenClaim := { program := "ytmmonhgfnmeieaagreatdoor", sum := "2e431bc4a9429a0a76838cd0766f3326fefeed0809580a60e2eb67775d3bd9cd", func := "tapewright/tapewrightlaw06.ArrayProducts", spec := "arrayProducts", inPlace := ["internal/bytealg.IndexByteString", "internal/bytealg.IndexString", "internal/reflectlite.TypeOf", "internal/reflectlite.ValueOf", "(internal/reflectlite.Value).Type", "(internal/reflectlite.Value).IsNil", "(internal/reflectlite.Value).Elem", "(internal/reflectlite.Value).Set"], unfollowed := true, recurses := true, named := ["tapewright/rat.errForm", "internal/bytealg.MaxLen", "tapewright/rat.errZero", "errors.errorType"], apart := false, laid := [("errors.errorType", laid_errors_errorType), ("tapewright/rat.errForm", laid_tapewright_rat_errForm), ("tapewright/rat.errZero", laid_tapewright_rat_errZero)], narrowed := true }
def ArrayProductsUptoSaid : Prop := arrayProductsUptoRow.holds Tryz.pinned (OpenSpec.upto arrayProductsSpec)

/-- 'tapewrightlaw06.ArrayTurns', WHERE WHAT IT READS IS OF BULK AT MOST 1048576: true; the input reads as it did. -/
def arrayTurnsUptoRow : OpenClaim := { program := "ytmmonhgfnmeieaagreatdoor", sum := "2e431bc4a9429a0a76838cd0766f3326fefeed0809580a60e2eb67775d3bd9cd", func := "tapewright/tapewrightlaw06.ArrayTurns", spec := "arrayTurns", inPlace := ["internal/bytealg.IndexByteString", "internal/bytealg.IndexString", "internal/reflectlite.TypeOf", "internal/reflectlite.ValueOf", "(internal/reflectlite.Value).Type", "(internal/reflectlite.Value).IsNil", "(internal/reflectlite.Value).Elem", "(internal/reflectlite.Value).Set"], unfollowed := true, recurses := true, named := ["tapewright/rat.errForm", "internal/bytealg.MaxLen", "tapewright/rat.errZero", "errors.errorType"], apart := false, laid := [("errors.errorType", laid_errors_errorType), ("tapewright/rat.errForm", laid_tapewright_rat_errForm), ("tapewright/rat.errZero", laid_tapewright_rat_errZero)], narrowed := true }
def ArrayTurnsUptoSaid : Prop := arrayTurnsUptoRow.holds Tryz.pinned (OpenSpec.upto arrayTurnsSpec)

/-- 'tapewrightlaw06.ArrayUnits', WHERE WHAT IT READS IS OF BULK AT MOST 1048576: true; the input reads as it did. -/
def arrayUnitsUptoRow : OpenClaim := { program := "ytmmonhgfnmeieaagreatdoor", sum := "2e431bc4a9429a0a76838cd0766f3326fefeed0809580a60e2eb67775d3bd9cd", func := "tapewright/tapewrightlaw06.ArrayUnits", spec := "arrayUnits", inPlace := ["internal/bytealg.IndexByteString", "internal/bytealg.IndexString", "internal/reflectlite.TypeOf", "internal/reflectlite.ValueOf", "(internal/reflectlite.Value).Type", "(internal/reflectlite.Value).IsNil", "(internal/reflectlite.Value).Elem", "(internal/reflectlite.Value).Set"], unfollowed := true, recurses := true, named := ["tapewright/rat.errForm", "internal/bytealg.MaxLen", "tapewright/rat.errZero", "errors.errorType"], apart := false, laid := [("errors.errorType", laid_errors_errorType), ("tapewright/rat.errForm", laid_tapewright_rat_errForm), ("tapewright/rat.errZero", laid_tapewright_rat_errZero)], narrowed := true }
def ArrayUnitsUptoSaid : Prop := arrayUnitsUptoRow.holds Tryz.pinned (OpenSpec.upto arrayUnitsSpec)

/-- 'tapewrightlaw06.ArrayRows', WHERE WHAT IT READS IS OF BULK AT MOST 1048576: true; the input reads as it did. -/
def arrayRowsUptoRow : OpenClaim := { program := "ytmmonhgfnmeieaagreatdoor", sum := "2e431bc4a9429a0a76838cd0766f3326fefeed0809580a60e2eb67775d3bd9cd", func := "tapewright/tapewrightlaw06.ArrayRows", spec := "arrayRows", inPlace := ["internal/bytealg.IndexByteString", "internal/bytealg.IndexString", "internal/reflectlite.TypeOf", "internal/reflectlite.ValueOf", "(internal/reflectlite.Value).Type", "(internal/reflectlite.Value).IsNil", "(internal/reflectlite.Value).Elem", "(internal/reflectlite.Value).Set"], unfollowed := true, recurses := true, named := ["tapewright/rat.errForm", "internal/bytealg.MaxLen", "tapewright/rat.errZero", "errors.errorType"], apart := false, laid := [("errors.errorType", laid_errors_errorType), ("tapewright/rat.errForm", laid_tapewright_rat_errForm), ("tapewright/rat.errZero", laid_tapewright_rat_errZero)], narrowed := true }
def ArrayRowsUptoSaid : Prop := arrayRowsUptoRow.holds Tryz.pinned (OpenSpec.upto arrayRowsSpec)

/-- 'tapewrightlaw06.ArrayTotals', WHERE WHAT IT READS IS OF BULK AT MOST 1048576: true; the input reads as it did. -/
def arrayTotalsUptoRow : OpenClaim := { program := "ytmmonhgfnmeieaagreatdoor", sum := "2e431bc4a9429a0a76838cd0766f3326fefeed0809580a60e2eb67775d3bd9cd", func := "tapewright/tapewrightlaw06.ArrayTotals", spec := "arrayTotals", inPlace := ["internal/bytealg.IndexByteString", "internal/bytealg.IndexString", "internal/reflectlite.TypeOf", "internal/reflectlite.ValueOf", "(internal/reflectlite.Value).Type", "(internal/reflectlite.Value).IsNil", "(internal/reflectlite.Value).Elem", "(internal/reflectlite.Value).Set"], unfollowed := true, recurses := true, named := ["tapewright/rat.errForm", "internal/bytealg.MaxLen", "tapewright/rat.errZero", "errors.errorType"], apart := false, laid := [("errors.errorType", laid_errors_errorType), ("tapewright/rat.errForm", laid_tapewright_rat_errForm), ("tapewright/rat.errZero", laid_tapewright_rat_errZero)], narrowed := true }
def ArrayTotalsUptoSaid : Prop := arrayTotalsUptoRow.holds Tryz.pinned (OpenSpec.upto arrayTotalsSpec)

/-- 'tapewrightlaw06.ArrayLinear', WHERE WHAT IT READS IS OF BULK AT MOST 1048576: true; the input reads as it did. -/
def arrayLinearUptoRow : OpenClaim := { program := "ytmmonhgfnmeieaagreatdoor", sum := "2e431bc4a9429a0a76838cd0766f3326fefeed0809580a60e2eb67775d3bd9cd", func := "tapewright/tapewrightlaw06.ArrayLinear", spec := "arrayLinear", inPlace := ["internal/bytealg.IndexByteString", "internal/bytealg.IndexString", "internal/reflectlite.TypeOf", "internal/reflectlite.ValueOf", "(internal/reflectlite.Value).Type", "(internal/reflectlite.Value).IsNil", "(internal/reflectlite.Value).Elem", "(internal/reflectlite.Value).Set"], unfollowed := true, recurses := true, named := ["tapewright/rat.errForm", "internal/bytealg.MaxLen", "tapewright/rat.errZero", "errors.errorType"], apart := false, laid := [("errors.errorType", laid_errors_errorType), ("tapewright/rat.errForm", laid_tapewright_rat_errForm), ("tapewright/rat.errZero", laid_tapewright_rat_errZero)], narrowed := true }
def ArrayLinearUptoSaid : Prop := arrayLinearUptoRow.holds Tryz.pinned (OpenSpec.upto arrayLinearSpec)

/-- 'tapewrightlaw06.ArrayScalars', WHERE WHAT IT READS IS OF BULK AT MOST 1048576: true; the input reads as it did. -/
def arrayScalarsUptoRow : OpenClaim := { program := "ytmmonhgfnmeieaagreatdoor", sum := "2e431bc4a9429a0a76838cd0766f3326fefeed0809580a60e2eb67775d3bd9cd", func := "tapewright/tapewrightlaw06.ArrayScalars", spec := "arrayScalars", inPlace := ["internal/bytealg.IndexByteString", "internal/bytealg.IndexString", "internal/reflectlite.TypeOf", "internal/reflectlite.ValueOf", "(internal/reflectlite.Value).Type", "(internal/reflectlite.Value).IsNil", "(internal/reflectlite.Value).Elem", "(internal/reflectlite.Value).Set"], unfollowed := true, recurses := true, named := ["tapewright/rat.errForm", "internal/bytealg.MaxLen", "tapewright/rat.errZero", "errors.errorType"], apart := false, laid := [("errors.errorType", laid_errors_errorType), ("tapewright/rat.errForm", laid_tapewright_rat_errForm), ("tapewright/rat.errZero", laid_tapewright_rat_errZero)], narrowed := true }
def ArrayScalarsUptoSaid : Prop := arrayScalarsUptoRow.holds Tryz.pinned (OpenSpec.upto arrayScalarsSpec)

/-- 'tapewrightlaw06.ArrayShapes', WHERE WHAT IT READS IS OF BULK AT MOST 1048576: true; the input reads as it did. -/
def arrayShapesUptoRow : OpenClaim := { program := "ytmmonhgfnmeieaagreatdoor", sum := "2e431bc4a9429a0a76838cd0766f3326fefeed0809580a60e2eb67775d3bd9cd", func := "tapewright/tapewrightlaw06.ArrayShapes", spec := "arrayShapes", inPlace := ["internal/bytealg.IndexByteString", "internal/bytealg.IndexString", "internal/reflectlite.TypeOf", "internal/reflectlite.ValueOf", "(internal/reflectlite.Value).Type", "(internal/reflectlite.Value).IsNil", "(internal/reflectlite.Value).Elem", "(internal/reflectlite.Value).Set"], unfollowed := true, recurses := true, named := ["tapewright/rat.errForm", "internal/bytealg.MaxLen", "tapewright/rat.errZero", "errors.errorType"], apart := false, laid := [("errors.errorType", laid_errors_errorType), ("tapewright/rat.errForm", laid_tapewright_rat_errForm), ("tapewright/rat.errZero", laid_tapewright_rat_errZero)], narrowed := true }
def ArrayShapesUptoSaid : Prop := arrayShapesUptoRow.holds Tryz.pinned (OpenSpec.upto arrayShapesSpec)

end Rows
end Go.Proofs.YtmmonhgfnmeieaaGreatDoor

/-
  NARROWER THAN 'FOR EVERY INPUT', by the rows' own cells (each row's printed sentence says how): KinkLaws: laid · KinkSlopes: laid · KinkEach: laid · KinkScale: laid · KinkFlat: laid · KinkTwo: laid · KinkSigns: laid · KinkOrder: laid.
  DERIVED. THE GIVEN ROWS OF THIS SEAT. 8 by the template 'for every input the law returns true; each argument reads behind the call as it read before'; 0 by the template 'total and deterministic' (their statements: YtndkjpkgllmbnaaGreatDoorTotals.lean).
  GIVEN WITH THE SEED: the statements are not yours to turn. If you find one false, say at which input.
  Laid BY PROGRAM, IN A SANDBOX (cutbox-rows.mjs): the forced cells as the released guide's own fill.sh prints them over the translation 17230594cbdc0879… (all of the seat's roots in one cut). By AI agents, Wed Nov 11 2026. No macro, syntax, notation, axiom, sorry.
-/
import Derived.Test.YtndkjpkgllmbnaaGreatDoorChecked
import GoSem.Claim
import GoSem.ClaimJoined
import GoSem.ClaimMapViews
import Derived.JoinedTies
import Derived.KernelRfl
namespace Go.Proofs.YtndkjpkgllmbnaaGreatDoor
/- THE CELL 'sum', in the pinned program and in every row, IS THE sha256 OF THE DUMP (.gsa) THAT YtndkjpkgllmbnaaGreatDoorProg.lean LOADS. Nothing in Lean hashes anything: it is a label: what it is worth is what the hold of that sum in a sandbox is worth. -/
noncomputable def Tryz.pinned : Pinned := { name := "ytndkjpkgllmbnaagreatdoor", sum := "17230594cbdc08798c78ad8f5c4622579967d271d7533536f05686ef161fe5a2", checked := Tryz.checked }
namespace Rows
def none {H : Type} : Left H := { results := [], args := [] }

/- WHAT THE LISTED PACKAGE-LEVEL VARIABLES READ AS WHEN THE CALL BEGINS. Each datum BY PROGRAM (the guide's laid-datum.mjs) off the statement by which the dump's own 'gosem.cut.vars' lays the variable. In a bare row this is a premise. The card (YtndkjpkgllmbnaaGreatDoorCards.lean) ties it to the program's text. -/
def laid_errors_errorType {H : Type} : DataW H := .iface "internal/reflectlite.rtype" (.agg [.ptr (.lit (.string [101, 114, 114, 111, 114]))])
def laid_tapewright_rat_errForm {H : Type} : DataW H := .iface "*errors.errorString" (.ptr (.agg [.lit (.string [110, 111, 32, 114, 97, 116, 105, 111, 110, 97, 108])]))
def laid_tapewright_rat_errZero {H : Type} : DataW H := .iface "*errors.errorString" (.ptr (.agg [.lit (.string [98, 121, 32, 110, 111, 117, 103, 104, 116])]))

/-- 'tapewrightlaw07.KinkLaws': WHATEVER THE INPUT: true; the input reads as it did. -/
def kinkLawsSpec : ChangeSpec := { name := "kinkLaws", fn := fun _ => fun
  | [d1, d2] => { results := [.lit (.bool true)], args := [d1, d2] }
  | _ => none }
def kinkLawsRow : OpenClaim := { program := "ytndkjpkgllmbnaagreatdoor", sum := "17230594cbdc08798c78ad8f5c4622579967d271d7533536f05686ef161fe5a2", func := "tapewright/tapewrightlaw07.KinkLaws", spec := "kinkLaws", inPlace := ["internal/bytealg.IndexByteString", "internal/bytealg.IndexString", "internal/reflectlite.TypeOf", "internal/reflectlite.ValueOf", "(internal/reflectlite.Value).Type", "(internal/reflectlite.Value).IsNil", "(internal/reflectlite.Value).Elem", "(internal/reflectlite.Value).Set"], unfollowed := true, recurses := true, named := ["tapewright/rat.errForm", "internal/bytealg.MaxLen", "tapewright/rat.errZero", "errors.errorType"], apart := false, laid := [("errors.errorType", laid_errors_errorType), ("tapewright/rat.errForm", laid_tapewright_rat_errForm), ("tapewright/rat.errZero", laid_tapewright_rat_errZero)] }
def KinkLawsSaid : Prop := kinkLawsRow.holds Tryz.pinned (OpenSpec.ofChange kinkLawsSpec)

/-- ITS FALSE NEIGHBOUR: 'it returns false'. Refute it at one input. -/
def kinkLawsWrong : ChangeSpec := { name := "kinkLaws", fn := fun _ => fun
  | [d1, d2] => { results := [.lit (.bool false)], args := [d1, d2] }
  | _ => none }
def KinkLawsWrongFalsely : Prop := kinkLawsRow.holds Tryz.pinned (OpenSpec.ofChange kinkLawsWrong)

/-- 'tapewrightlaw07.KinkSlopes': WHATEVER THE INPUT: true; the input reads as it did. -/
def kinkSlopesSpec : ChangeSpec := { name := "kinkSlopes", fn := fun _ => fun
  | [d1, d2] => { results := [.lit (.bool true)], args := [d1, d2] }
  | _ => none }
def kinkSlopesRow : OpenClaim := { program := "ytndkjpkgllmbnaagreatdoor", sum := "17230594cbdc08798c78ad8f5c4622579967d271d7533536f05686ef161fe5a2", func := "tapewright/tapewrightlaw07.KinkSlopes", spec := "kinkSlopes", inPlace := ["internal/bytealg.IndexByteString", "internal/bytealg.IndexString", "internal/reflectlite.TypeOf", "internal/reflectlite.ValueOf", "(internal/reflectlite.Value).Type", "(internal/reflectlite.Value).IsNil", "(internal/reflectlite.Value).Elem", "(internal/reflectlite.Value).Set"], unfollowed := true, recurses := true, named := ["tapewright/rat.errForm", "internal/bytealg.MaxLen", "tapewright/rat.errZero", "errors.errorType"], apart := false, laid := [("errors.errorType", laid_errors_errorType), ("tapewright/rat.errForm", laid_tapewright_rat_errForm), ("tapewright/rat.errZero", laid_tapewright_rat_errZero)] }
def KinkSlopesSaid : Prop := kinkSlopesRow.holds Tryz.pinned (OpenSpec.ofChange kinkSlopesSpec)

/-- ITS FALSE NEIGHBOUR: 'it returns false'. Refute it at one input. -/
def kinkSlopesWrong : ChangeSpec := { name := "kinkSlopes", fn := fun _ => fun
  | [d1, d2] => { results := [.lit (.bool false)], args := [d1, d2] }
  | _ => none }
def KinkSlopesWrongFalsely : Prop := kinkSlopesRow.holds Tryz.pinned (OpenSpec.ofChange kinkSlopesWrong)

/-- 'tapewrightlaw07.KinkEach': WHATEVER THE INPUT: true; the input reads as it did. -/
def kinkEachSpec : ChangeSpec := { name := "kinkEach", fn := fun _ => fun
  | [d] => { results := [.lit (.bool true)], args := [d] }
  | _ => none }
def kinkEachRow : OpenClaim := { program := "ytndkjpkgllmbnaagreatdoor", sum := "17230594cbdc08798c78ad8f5c4622579967d271d7533536f05686ef161fe5a2", func := "tapewright/tapewrightlaw07.KinkEach", spec := "kinkEach", inPlace := ["internal/bytealg.IndexByteString", "internal/bytealg.IndexString", "internal/reflectlite.TypeOf", "internal/reflectlite.ValueOf", "(internal/reflectlite.Value).Type", "(internal/reflectlite.Value).IsNil", "(internal/reflectlite.Value).Elem", "(internal/reflectlite.Value).Set"], unfollowed := true, recurses := true, named := ["tapewright/rat.errForm", "internal/bytealg.MaxLen", "tapewright/rat.errZero", "errors.errorType"], apart := false, laid := [("errors.errorType", laid_errors_errorType), ("tapewright/rat.errForm", laid_tapewright_rat_errForm), ("tapewright/rat.errZero", laid_tapewright_rat_errZero)] }
def KinkEachSaid : Prop := kinkEachRow.holds Tryz.pinned (OpenSpec.ofChange kinkEachSpec)

/-- ITS FALSE NEIGHBOUR: 'it returns false'. Refute it at one input. -/
def kinkEachWrong : ChangeSpec := { name := "kinkEach", fn := fun _ => fun
  | [d] => { results := [.lit (.bool false)], args := [d] }
  | _ => none }
def KinkEachWrongFalsely : Prop := kinkEachRow.holds Tryz.pinned (OpenSpec.ofChange kinkEachWrong)

/-- 'tapewrightlaw07.KinkScale': WHATEVER THE INPUT: true; the input reads as it did. -/
def kinkScaleSpec : ChangeSpec := { name := "kinkScale", fn := fun _ => fun
  | [d1, d2] => { results := [.lit (.bool true)], args := [d1, d2] }
  | _ => none }
def kinkScaleRow : OpenClaim := { program := "ytndkjpkgllmbnaagreatdoor", sum := "17230594cbdc08798c78ad8f5c4622579967d271d7533536f05686ef161fe5a2", func := "tapewright/tapewrightlaw07.KinkScale", spec := "kinkScale", inPlace := ["internal/bytealg.IndexByteString", "internal/bytealg.IndexString", "internal/reflectlite.TypeOf", "internal/reflectlite.ValueOf", "(internal/reflectlite.Value).Type", "(internal/reflectlite.Value).IsNil", "(internal/reflectlite.Value).Elem", "(internal/reflectlite.Value).Set"], unfollowed := true, recurses := true, named := ["tapewright/rat.errForm", "internal/bytealg.MaxLen", "tapewright/rat.errZero", "errors.errorType"], apart := false, laid := [("errors.errorType", laid_errors_errorType), ("tapewright/rat.errForm", laid_tapewright_rat_errForm), ("tapewright/rat.errZero", laid_tapewright_rat_errZero)] }
def KinkScaleSaid : Prop := kinkScaleRow.holds Tryz.pinned (OpenSpec.ofChange kinkScaleSpec)

/-- ITS FALSE NEIGHBOUR: 'it returns false'. Refute it at one input. -/
def kinkScaleWrong : ChangeSpec := { name := "kinkScale", fn := fun _ => fun
  | [d1, d2] => { results := [.lit (.bool false)], args := [d1, d2] }
  | _ => none }
def KinkScaleWrongFalsely : Prop := kinkScaleRow.holds Tryz.pinned (OpenSpec.ofChange kinkScaleWrong)

/-- 'tapewrightlaw07.KinkFlat': WHATEVER THE INPUT: true; the input reads as it did. -/
def kinkFlatSpec : ChangeSpec := { name := "kinkFlat", fn := fun _ => fun
  | [d] => { results := [.lit (.bool true)], args := [d] }
  | _ => none }
def kinkFlatRow : OpenClaim := { program := "ytndkjpkgllmbnaagreatdoor", sum := "17230594cbdc08798c78ad8f5c4622579967d271d7533536f05686ef161fe5a2", func := "tapewright/tapewrightlaw07.KinkFlat", spec := "kinkFlat", inPlace := ["internal/bytealg.IndexByteString", "internal/bytealg.IndexString", "internal/reflectlite.TypeOf", "internal/reflectlite.ValueOf", "(internal/reflectlite.Value).Type", "(internal/reflectlite.Value).IsNil", "(internal/reflectlite.Value).Elem", "(internal/reflectlite.Value).Set"], unfollowed := true, recurses := true, named := ["tapewright/rat.errForm", "internal/bytealg.MaxLen", "tapewright/rat.errZero", "errors.errorType"], apart := false, laid := [("errors.errorType", laid_errors_errorType), ("tapewright/rat.errForm", laid_tapewright_rat_errForm), ("tapewright/rat.errZero", laid_tapewright_rat_errZero)] }
def KinkFlatSaid : Prop := kinkFlatRow.holds Tryz.pinned (OpenSpec.ofChange kinkFlatSpec)

/-- ITS FALSE NEIGHBOUR: 'it returns false'. Refute it at one input. -/
def kinkFlatWrong : ChangeSpec := { name := "kinkFlat", fn := fun _ => fun
  | [d] => { results := [.lit (.bool false)], args := [d] }
  | _ => none }
def KinkFlatWrongFalsely : Prop := kinkFlatRow.holds Tryz.pinned (OpenSpec.ofChange kinkFlatWrong)

/-- 'tapewrightlaw07.KinkTwo': WHATEVER THE INPUT: true; the input reads as it did. -/
def kinkTwoSpec : ChangeSpec := { name := "kinkTwo", fn := fun _ => fun
  | [d1, d2] => { results := [.lit (.bool true)], args := [d1, d2] }
  | _ => none }
def kinkTwoRow : OpenClaim := { program := "ytndkjpkgllmbnaagreatdoor", sum := "17230594cbdc08798c78ad8f5c4622579967d271d7533536f05686ef161fe5a2", func := "tapewright/tapewrightlaw07.KinkTwo", spec := "kinkTwo", inPlace := ["internal/bytealg.IndexByteString", "internal/bytealg.IndexString", "internal/reflectlite.TypeOf", "internal/reflectlite.ValueOf", "(internal/reflectlite.Value).Type", "(internal/reflectlite.Value).IsNil", "(internal/reflectlite.Value).Elem", "(internal/reflectlite.Value).Set"], unfollowed := true, recurses := true, named := ["tapewright/rat.errForm", "internal/bytealg.MaxLen", "tapewright/rat.errZero", "errors.errorType"], apart := false, laid := [("errors.errorType", laid_errors_errorType), ("tapewright/rat.errForm", laid_tapewright_rat_errForm), ("tapewright/rat.errZero", laid_tapewright_rat_errZero)] }
def KinkTwoSaid : Prop := kinkTwoRow.holds Tryz.pinned (OpenSpec.ofChange kinkTwoSpec)

/-- ITS FALSE NEIGHBOUR: 'it returns false'. Refute it at one input. -/
def kinkTwoWrong : ChangeSpec := { name := "kinkTwo", fn := fun _ => fun
  | [d1, d2] => { results := [.lit (.bool false)], args := [d1, d2] }
  | _ => none }
def KinkTwoWrongFalsely : Prop := kinkTwoRow.holds Tryz.pinned (OpenSpec.ofChange kinkTwoWrong)

/-- 'tapewrightlaw07.KinkSigns': WHATEVER THE INPUT: true; the input reads as it did. -/
def kinkSignsSpec : ChangeSpec := { name := "kinkSigns", fn := fun _ => fun
  | [d] => { results := [.lit (.bool true)], args := [d] }
  | _ => none }
def kinkSignsRow : OpenClaim := { program := "ytndkjpkgllmbnaagreatdoor", sum := "17230594cbdc08798c78ad8f5c4622579967d271d7533536f05686ef161fe5a2", func := "tapewright/tapewrightlaw07.KinkSigns", spec := "kinkSigns", inPlace := ["internal/bytealg.IndexByteString", "internal/bytealg.IndexString", "internal/reflectlite.TypeOf", "internal/reflectlite.ValueOf", "(internal/reflectlite.Value).Type", "(internal/reflectlite.Value).IsNil", "(internal/reflectlite.Value).Elem", "(internal/reflectlite.Value).Set"], unfollowed := true, recurses := true, named := ["tapewright/rat.errForm", "internal/bytealg.MaxLen", "tapewright/rat.errZero", "errors.errorType"], apart := false, laid := [("errors.errorType", laid_errors_errorType), ("tapewright/rat.errForm", laid_tapewright_rat_errForm), ("tapewright/rat.errZero", laid_tapewright_rat_errZero)] }
def KinkSignsSaid : Prop := kinkSignsRow.holds Tryz.pinned (OpenSpec.ofChange kinkSignsSpec)

/-- ITS FALSE NEIGHBOUR: 'it returns false'. Refute it at one input. -/
def kinkSignsWrong : ChangeSpec := { name := "kinkSigns", fn := fun _ => fun
  | [d] => { results := [.lit (.bool false)], args := [d] }
  | _ => none }
def KinkSignsWrongFalsely : Prop := kinkSignsRow.holds Tryz.pinned (OpenSpec.ofChange kinkSignsWrong)

/-- 'tapewrightlaw07.KinkOrder': WHATEVER THE INPUT: true; the input reads as it did. -/
def kinkOrderSpec : ChangeSpec := { name := "kinkOrder", fn := fun _ => fun
  | [d1, d2] => { results := [.lit (.bool true)], args := [d1, d2] }
  | _ => none }
def kinkOrderRow : OpenClaim := { program := "ytndkjpkgllmbnaagreatdoor", sum := "17230594cbdc08798c78ad8f5c4622579967d271d7533536f05686ef161fe5a2", func := "tapewright/tapewrightlaw07.KinkOrder", spec := "kinkOrder", inPlace := ["internal/bytealg.IndexByteString", "internal/bytealg.IndexString", "internal/reflectlite.TypeOf", "internal/reflectlite.ValueOf", "(internal/reflectlite.Value).Type", "(internal/reflectlite.Value).IsNil", "(internal/reflectlite.Value).Elem", "(internal/reflectlite.Value).Set"], unfollowed := true, recurses := true, named := ["tapewright/rat.errForm", "internal/bytealg.MaxLen", "tapewright/rat.errZero", "errors.errorType"], apart := false, laid := [("errors.errorType", laid_errors_errorType), ("tapewright/rat.errForm", laid_tapewright_rat_errForm), ("tapewright/rat.errZero", laid_tapewright_rat_errZero)] }
def KinkOrderSaid : Prop := kinkOrderRow.holds Tryz.pinned (OpenSpec.ofChange kinkOrderSpec)

/-- ITS FALSE NEIGHBOUR: 'it returns false'. Refute it at one input. -/
def kinkOrderWrong : ChangeSpec := { name := "kinkOrder", fn := fun _ => fun
  | [d1, d2] => { results := [.lit (.bool false)], args := [d1, d2] }
  | _ => none }
def KinkOrderWrongFalsely : Prop := kinkOrderRow.holds Tryz.pinned (OpenSpec.ofChange kinkOrderWrong)

/- THE SECOND FORM. 'bulk': how many values and letters a reading holds, each counted each time it is reached (what is shared counts as often as it is met; a slice's spare places count too). A statement '..UptoSaid' is the law's where the arguments, and the package variables that the reading takes, are together of bulk at most 1048576: NARROWER than '..Said'. Prove '..Said' where nothing that the law and all that it calls make is longer than what came in: it says more and counts as full. Else prove '..UptoSaid'. A law counts once. -/
mutual
def uptoBulk {H : Type} : DataW H → Nat
  | .lit (.string bytes) => bytes.length + 1
  | .lit _ => 1
  | .nil => 1
  | .ptr d => uptoBulk d + 1
  | .slice elems spare => uptoBulkAll elems + uptoBulkAll spare + 1
  | .agg parts => uptoBulkAll parts + 1
  | .iface _ d => uptoBulk d + 1
  | .map entries => uptoBulkEntries entries + 1
  | .held _ => 1
def uptoBulkAll {H : Type} : List (DataW H) → Nat
  | [] => 0
  | d :: r => uptoBulk d + uptoBulkAll r
def uptoBulkEntries {H : Type} : List (Lit × DataW H) → Nat
  | [] => 0
  | x :: r => uptoBulkEntry x + uptoBulkEntries r
def uptoBulkEntry {H : Type} : Lit × DataW H → Nat
  | (.string bytes, d) => bytes.length + uptoBulk d + 1
  | (_, d) => uptoBulk d + 1
 end
def uptoSmall : (H : Type) → List (DataW H) → Bool := fun _ ds => decide (uptoBulkAll ds ≤ 1048576)
def OpenSpec.upto (s : _root_.Go.ChangeSpec) : _root_.Go.OpenSpec := { _root_.Go.OpenSpec.ofChange s with cond := some uptoSmall }

/-- 'tapewrightlaw07.KinkLaws', WHERE WHAT IT READS IS OF BULK AT MOST 1048576: true; the input reads as it did. -/
def kinkLawsUptoRow : OpenClaim := { program := "ytndkjpkgllmbnaagreatdoor", sum := "17230594cbdc08798c78ad8f5c4622579967d271d7533536f05686ef161fe5a2", func := "tapewright/tapewrightlaw07.KinkLaws", spec := "kinkLaws", inPlace := ["internal/bytealg.IndexByteString", "internal/bytealg.IndexString", "internal/reflectlite.TypeOf", "internal/reflectlite.ValueOf", "(internal/reflectlite.Value).Type", "(internal/reflectlite.Value).IsNil", "(internal/reflectlite.Value).Elem", "(internal/reflectlite.Value).Set"], unfollowed := true, recurses := true, named := ["tapewright/rat.errForm", "internal/bytealg.MaxLen", "tapewright/rat.errZero", "errors.errorType"], apart := false, laid := [("errors.errorType", laid_errors_errorType), ("tapewright/rat.errForm", laid_tapewright_rat_errForm), ("tapewright/rat.errZero", laid_tapewright_rat_errZero)], narrowed := true }
def KinkLawsUptoSaid : Prop := kinkLawsUptoRow.holds Tryz.pinned (OpenSpec.upto kinkLawsSpec)

/-- 'tapewrightlaw07.KinkSlopes', WHERE WHAT IT READS IS OF BULK AT MOST 1048576: true; the input reads as it did. -/
def kinkSlopesUptoRow : OpenClaim := { program := "ytndkjpkgllmbnaagreatdoor", sum := "17230594cbdc08798c78ad8f5c4622579967d271d7533536f05686ef161fe5a2", func := "tapewright/tapewrightlaw07.KinkSlopes", spec := "kinkSlopes", inPlace := ["internal/bytealg.IndexByteString", "internal/bytealg.IndexString", "internal/reflectlite.TypeOf", "internal/reflectlite.ValueOf", "(internal/reflectlite.Value).Type", "(internal/reflectlite.Value).IsNil", "(internal/reflectlite.Value).Elem", "(internal/reflectlite.Value).Set"], unfollowed := true, recurses := true, named := ["tapewright/rat.errForm", "internal/bytealg.MaxLen", "tapewright/rat.errZero", "errors.errorType"], apart := false, laid := [("errors.errorType", laid_errors_errorType), ("tapewright/rat.errForm", laid_tapewright_rat_errForm), ("tapewright/rat.errZero", laid_tapewright_rat_errZero)], narrowed := true }
def KinkSlopesUptoSaid : Prop := kinkSlopesUptoRow.holds Tryz.pinned (OpenSpec.upto kinkSlopesSpec)

/-- 'tapewrightlaw07.KinkEach', WHERE WHAT IT READS IS OF BULK AT MOST 1048576: true; the input reads as it did. -/
def kinkEachUptoRow : OpenClaim := { program := "ytndkjpkgllmbnaagreatdoor", sum := "17230594cbdc08798c78ad8f5c4622579967d271d7533536f05686ef161fe5a2", func := "tapewright/tapewrightlaw07.KinkEach", spec := "kinkEach", inPlace := ["internal/bytealg.IndexByteString", "internal/bytealg.IndexString", "internal/reflectlite.TypeOf", "internal/reflectlite.ValueOf", "(internal/reflectlite.Value).Type", "(internal/reflectlite.Value).IsNil", "(internal/reflectlite.Value).Elem", "(internal/reflectlite.Value).Set"], unfollowed := true, recurses := true, named := ["tapewright/rat.errForm", "internal/bytealg.MaxLen", "tapewright/rat.errZero", "errors.errorType"], apart := false, laid := [("errors.errorType", laid_errors_errorType), ("tapewright/rat.errForm", laid_tapewright_rat_errForm), ("tapewright/rat.errZero", laid_tapewright_rat_errZero)], narrowed := true }
def KinkEachUptoSaid : Prop := kinkEachUptoRow.holds Tryz.pinned (OpenSpec.upto kinkEachSpec)

/-- 'tapewrightlaw07.KinkScale', WHERE WHAT IT READS IS OF BULK AT MOST 1048576: true; the input reads as it did. -/
def kinkScaleUptoRow : OpenClaim := { program := "ytndkjpkgllmbnaagreatdoor", sum := "17230594cbdc08798c78ad8f5c4622579967d271d7533536f05686ef161fe5a2", func := "tapewright/tapewrightlaw07.KinkScale", spec := "kinkScale", inPlace := ["internal/bytealg.IndexByteString", "internal/bytealg.IndexString", "internal/reflectlite.TypeOf", "internal/reflectlite.ValueOf", "(internal/reflectlite.Value).Type", "(internal/reflectlite.Value).IsNil", "(internal/reflectlite.Value).Elem", "(internal/reflectlite.Value).Set"], unfollowed := true, recurses := true, named := ["tapewright/rat.errForm", "internal/bytealg.MaxLen", "tapewright/rat.errZero", "errors.errorType"], apart := false, laid := [("errors.errorType", laid_errors_errorType), ("tapewright/rat.errForm", laid_tapewright_rat_errForm), ("tapewright/rat.errZero", laid_tapewright_rat_errZero)], narrowed := true }
def KinkScaleUptoSaid : Prop := kinkScaleUptoRow.holds Tryz.pinned (OpenSpec.upto kinkScaleSpec)

/-- 'tapewrightlaw07.KinkFlat', WHERE WHAT IT READS IS OF BULK AT MOST 1048576: true; the input reads as it did. -/
def kinkFlatUptoRow : OpenClaim := { program := "ytndkjpkgllmbnaagreatdoor", sum := "17230594cbdc08798c78ad8f5c4622579967d271d7533536f05686ef161fe5a2", func := "tapewright/tapewrightlaw07.KinkFlat", spec := "kinkFlat", inPlace := ["internal/bytealg.IndexByteString", "internal/bytealg.IndexString", "internal/reflectlite.TypeOf", "internal/reflectlite.ValueOf", "(internal/reflectlite.Value).Type", "(internal/reflectlite.Value).IsNil", "(internal/reflectlite.Value).Elem", "(internal/reflectlite.Value).Set"], unfollowed := true, recurses := true, named := ["tapewright/rat.errForm", "internal/bytealg.MaxLen", "tapewright/rat.errZero", "errors.errorType"], apart := false, laid := [("errors.errorType", laid_errors_errorType), ("tapewright/rat.errForm", laid_tapewright_rat_errForm), ("tapewright/rat.errZero", laid_tapewright_rat_errZero)], narrowed := true }
def KinkFlatUptoSaid : Prop := kinkFlatUptoRow.holds Tryz.pinned (OpenSpec.upto kinkFlatSpec)

/-- 'tapewrightlaw07.KinkTwo', WHERE WHAT IT READS IS OF BULK AT MOST 1048576: true; the input reads as it did. -/
def kinkTwoUptoRow : OpenClaim := { program := "ytndkjpkgllmbnaagreatdoor", sum := "17230594cbdc08798c78ad8f5c4622579967d271d7533536f05686ef161fe5a2", func := "tapewright/tapewrightlaw07.KinkTwo", spec := "kinkTwo", inPlace := ["internal/bytealg.IndexByteString", "internal/bytealg.IndexString", "internal/reflectlite.TypeOf", "internal/reflectlite.ValueOf", "(internal/reflectlite.Value).Type", "(internal/reflectlite.Value).IsNil", "(internal/reflectlite.Value).Elem", "(internal/reflectlite.Value).Set"], unfollowed := true, recurses := true, named := ["tapewright/rat.errForm", "internal/bytealg.MaxLen", "tapewright/rat.errZero", "errors.errorType"], apart := false, laid := [("errors.errorType", laid_errors_errorType), ("tapewright/rat.errForm", laid_tapewright_rat_errForm), ("tapewright/rat.errZero", laid_tapewright_rat_errZero)], narrowed := true }
def KinkTwoUptoSaid : Prop := kinkTwoUptoRow.holds Tryz.pinned (OpenSpec.upto kinkTwoSpec)

/-- 'tapewrightlaw07.KinkSigns', WHERE WHAT IT READS IS OF BULK AT MOST 1048576: true; the input reads as it did. -/
def kinkSignsUptoRow : OpenClaim := { program := "ytndkjpkgllmbnaagreatdoor", sum := "17230594cbdc08798c78ad8f5c4622579967d271d7533536f05686ef161fe5a2", func := "tapewright/tapewrightlaw07.KinkSigns", spec := "kinkSigns", inPlace := ["internal/bytealg.IndexByteString", "internal/bytealg.IndexString", "internal/reflectlite.TypeOf", "internal/reflectlite.ValueOf", "(internal/reflectlite.Value).Type", "(internal/reflectlite.Value).IsNil", "(internal/reflectlite.Value).Elem", "(internal/reflectlite.Value).Set"], unfollowed := true, recurses := true, named := ["tapewright/rat.errForm", "internal/bytealg.MaxLen", "tapewright/rat.errZero", "errors.errorType"], apart := false, laid := [("errors.errorType", laid_errors_errorType), ("tapewright/rat.errForm", laid_tapewright_rat_errForm), ("tapewright/rat.errZero", laid_tapewright_rat_errZero)], narrowed := true }
def KinkSignsUptoSaid : Prop := kinkSignsUptoRow.holds Tryz.pinned (OpenSpec.upto kinkSignsSpec)

/-- 'tapewrightlaw07.KinkOrder', WHERE WHAT IT READS IS OF BULK AT MOST 1048576: true; the input reads as it did. -/
def kinkOrderUptoRow : OpenClaim := { program := "ytndkjpkgllmbnaagreatdoor", sum := "17230594cbdc08798c78ad8f5c4622579967d271d7533536f05686ef161fe5a2", func := "tapewright/tapewrightlaw07.KinkOrder", spec := "kinkOrder", inPlace := ["internal/bytealg.IndexByteString", "internal/bytealg.IndexString", "internal/reflectlite.TypeOf", "internal/reflectlite.ValueOf", "(internal/reflectlite.Value).Type", "(internal/reflectlite.Value).IsNil", "(internal/reflectlite.Value).Elem", "(internal/reflectlite.Value).Set"], unfollowed := true, recurses := true, named := ["tapewright/rat.errForm", "internal/bytealg.MaxLen", "tapewright/rat.errZero", "errors.errorType"], apart := false, laid := [("errors.errorType", laid_errors_errorType), ("tapewright/rat.errForm", laid_tapewright_rat_errForm), ("tapewright/rat.errZero", laid_tapewright_rat_errZero)], narrowed := true }
def KinkOrderUptoSaid : Prop := kinkOrderUptoRow.holds Tryz.pinned (OpenSpec.upto kinkOrderSpec)

end Rows
end Go.Proofs.YtndkjpkgllmbnaaGreatDoor

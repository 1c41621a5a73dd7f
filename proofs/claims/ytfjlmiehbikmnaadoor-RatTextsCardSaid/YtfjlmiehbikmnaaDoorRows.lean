/-
  NARROWER THAN 'FOR EVERY INPUT', by the rows' own cells (each row's printed sentence says how): RatTexts: laid · RatQuos: laid · RatPowers: laid · RatLaws: laid · RatUnits: laid · RatSigns: laid · RatOne: laid · RatOrder: laid · RatBetween: laid.
  DERIVED. THE GIVEN ROWS OF THIS SEAT. 9 by the template 'for every input the law returns true; each argument reads behind the call as it read before'; 0 by the template 'total and deterministic' (their statements: YtfjlmiehbikmnaaDoorTotals.lean).
  GIVEN WITH THE SEED: the statements are not yours to turn. If you find one false, say at which input.
  Laid BY PROGRAM, IN A SANDBOX (cutbox-rows.mjs): the forced cells as the released guide's own fill.sh prints them over the translation aa21435c72cb4284… (all of the seat's roots in one cut). By AI agents, Wed Nov 11 2026. No macro, syntax, notation, axiom, sorry.
-/
import Derived.Test.YtfjlmiehbikmnaaDoorChecked
import GoSem.Claim
import GoSem.ClaimJoined
import GoSem.ClaimMapViews
import Derived.JoinedTies
import Derived.KernelRfl
namespace Go.Proofs.YtfjlmiehbikmnaaDoor
/- THE CELL 'sum', in the pinned program and in every row, IS THE sha256 OF THE DUMP (.gsa) THAT YtfjlmiehbikmnaaDoorProg.lean LOADS. Nothing in Lean hashes anything: it is a label: what it is worth is what the hold of that sum in a sandbox is worth. -/
noncomputable def Tryd.pinned : Pinned := { name := "ytfjlmiehbikmnaadoor", sum := "aa21435c72cb428469eff3cc71d5aa49b9e6fd28bcbb37346db98b52ecb53f30", checked := Tryd.checked }
namespace Rows
def none {H : Type} : Left H := { results := [], args := [] }

/- WHAT THE LISTED PACKAGE-LEVEL VARIABLES READ AS WHEN THE CALL BEGINS. Each datum BY PROGRAM (the guide's laid-datum.mjs) off the statement by which the dump's own 'gosem.cut.vars' lays the variable. In a bare row this is a premise. The card (YtfjlmiehbikmnaaDoorCards.lean) ties it to the program's text. -/
def laid_errors_errorType {H : Type} : DataW H := .iface "internal/reflectlite.rtype" (.agg [.ptr (.lit (.string [101, 114, 114, 111, 114]))])
def laid_tapewright_rat_errForm {H : Type} : DataW H := .iface "*errors.errorString" (.ptr (.agg [.lit (.string [110, 111, 32, 114, 97, 116, 105, 111, 110, 97, 108])]))
def laid_tapewright_rat_errZero {H : Type} : DataW H := .iface "*errors.errorString" (.ptr (.agg [.lit (.string [98, 121, 32, 110, 111, 117, 103, 104, 116])]))

/-- 'tapewrightlaw03.RatTexts': WHATEVER THE INPUT: true; the input reads as it did. -/
def ratTextsSpec : ChangeSpec := { name := "ratTexts", fn := fun _ => fun
  | [d1, d2] => { results := [.lit (.bool true)], args := [d1, d2] }
  | _ => none }
def ratTextsRow : OpenClaim := { program := "ytfjlmiehbikmnaadoor", sum := "aa21435c72cb428469eff3cc71d5aa49b9e6fd28bcbb37346db98b52ecb53f30", func := "tapewright/tapewrightlaw03.RatTexts", spec := "ratTexts", inPlace := ["internal/bytealg.IndexByteString", "internal/bytealg.IndexString", "internal/reflectlite.TypeOf", "internal/reflectlite.ValueOf", "(internal/reflectlite.Value).Type", "(internal/reflectlite.Value).IsNil", "(internal/reflectlite.Value).Elem", "(internal/reflectlite.Value).Set"], unfollowed := true, recurses := true, named := ["tapewright/rat.errForm", "internal/bytealg.MaxLen", "tapewright/rat.errZero", "errors.errorType"], apart := false, laid := [("errors.errorType", laid_errors_errorType), ("tapewright/rat.errForm", laid_tapewright_rat_errForm), ("tapewright/rat.errZero", laid_tapewright_rat_errZero)] }
def RatTextsSaid : Prop := ratTextsRow.holds Tryd.pinned (OpenSpec.ofChange ratTextsSpec)

/-- ITS FALSE NEIGHBOUR: 'it returns false'. Refute it at one input. -/
def ratTextsWrong : ChangeSpec := { name := "ratTexts", fn := fun _ => fun
  | [d1, d2] => { results := [.lit (.bool false)], args := [d1, d2] }
  | _ => none }
def RatTextsWrongFalsely : Prop := ratTextsRow.holds Tryd.pinned (OpenSpec.ofChange ratTextsWrong)

/-- 'tapewrightlaw03.RatQuos': WHATEVER THE INPUT: true; the input reads as it did. -/
def ratQuosSpec : ChangeSpec := { name := "ratQuos", fn := fun _ => fun
  | [d1, d2, d3] => { results := [.lit (.bool true)], args := [d1, d2, d3] }
  | _ => none }
def ratQuosRow : OpenClaim := { program := "ytfjlmiehbikmnaadoor", sum := "aa21435c72cb428469eff3cc71d5aa49b9e6fd28bcbb37346db98b52ecb53f30", func := "tapewright/tapewrightlaw03.RatQuos", spec := "ratQuos", inPlace := ["internal/bytealg.IndexByteString", "internal/bytealg.IndexString", "internal/reflectlite.TypeOf", "internal/reflectlite.ValueOf", "(internal/reflectlite.Value).Type", "(internal/reflectlite.Value).IsNil", "(internal/reflectlite.Value).Elem", "(internal/reflectlite.Value).Set"], unfollowed := true, recurses := true, named := ["tapewright/rat.errForm", "internal/bytealg.MaxLen", "tapewright/rat.errZero", "errors.errorType"], apart := false, laid := [("errors.errorType", laid_errors_errorType), ("tapewright/rat.errForm", laid_tapewright_rat_errForm), ("tapewright/rat.errZero", laid_tapewright_rat_errZero)] }
def RatQuosSaid : Prop := ratQuosRow.holds Tryd.pinned (OpenSpec.ofChange ratQuosSpec)

/-- ITS FALSE NEIGHBOUR: 'it returns false'. Refute it at one input. -/
def ratQuosWrong : ChangeSpec := { name := "ratQuos", fn := fun _ => fun
  | [d1, d2, d3] => { results := [.lit (.bool false)], args := [d1, d2, d3] }
  | _ => none }
def RatQuosWrongFalsely : Prop := ratQuosRow.holds Tryd.pinned (OpenSpec.ofChange ratQuosWrong)

/-- 'tapewrightlaw03.RatPowers': WHATEVER THE INPUT: true; the input reads as it did. -/
def ratPowersSpec : ChangeSpec := { name := "ratPowers", fn := fun _ => fun
  | [d1, d2, d3] => { results := [.lit (.bool true)], args := [d1, d2, d3] }
  | _ => none }
def ratPowersRow : OpenClaim := { program := "ytfjlmiehbikmnaadoor", sum := "aa21435c72cb428469eff3cc71d5aa49b9e6fd28bcbb37346db98b52ecb53f30", func := "tapewright/tapewrightlaw03.RatPowers", spec := "ratPowers", inPlace := ["internal/bytealg.IndexByteString", "internal/bytealg.IndexString", "internal/reflectlite.TypeOf", "internal/reflectlite.ValueOf", "(internal/reflectlite.Value).Type", "(internal/reflectlite.Value).IsNil", "(internal/reflectlite.Value).Elem", "(internal/reflectlite.Value).Set"], unfollowed := true, recurses := true, named := ["tapewright/rat.errForm", "internal/bytealg.MaxLen", "tapewright/rat.errZero", "errors.errorType"], apart := false, laid := [("errors.errorType", laid_errors_errorType), ("tapewright/rat.errForm", laid_tapewright_rat_errForm), ("tapewright/rat.errZero", laid_tapewright_rat_errZero)] }
def RatPowersSaid : Prop := ratPowersRow.holds Tryd.pinned (OpenSpec.ofChange ratPowersSpec)

/-- ITS FALSE NEIGHBOUR: 'it returns false'. Refute it at one input. -/
def ratPowersWrong : ChangeSpec := { name := "ratPowers", fn := fun _ => fun
  | [d1, d2, d3] => { results := [.lit (.bool false)], args := [d1, d2, d3] }
  | _ => none }
def RatPowersWrongFalsely : Prop := ratPowersRow.holds Tryd.pinned (OpenSpec.ofChange ratPowersWrong)

/-- 'tapewrightlaw03.RatLaws': WHATEVER THE INPUT: true; the input reads as it did. -/
def ratLawsSpec : ChangeSpec := { name := "ratLaws", fn := fun _ => fun
  | [d1, d2, d3] => { results := [.lit (.bool true)], args := [d1, d2, d3] }
  | _ => none }
def ratLawsRow : OpenClaim := { program := "ytfjlmiehbikmnaadoor", sum := "aa21435c72cb428469eff3cc71d5aa49b9e6fd28bcbb37346db98b52ecb53f30", func := "tapewright/tapewrightlaw03.RatLaws", spec := "ratLaws", inPlace := ["internal/bytealg.IndexByteString", "internal/bytealg.IndexString", "internal/reflectlite.TypeOf", "internal/reflectlite.ValueOf", "(internal/reflectlite.Value).Type", "(internal/reflectlite.Value).IsNil", "(internal/reflectlite.Value).Elem", "(internal/reflectlite.Value).Set"], unfollowed := true, recurses := true, named := ["tapewright/rat.errForm", "internal/bytealg.MaxLen", "tapewright/rat.errZero", "errors.errorType"], apart := false, laid := [("errors.errorType", laid_errors_errorType), ("tapewright/rat.errForm", laid_tapewright_rat_errForm), ("tapewright/rat.errZero", laid_tapewright_rat_errZero)] }
def RatLawsSaid : Prop := ratLawsRow.holds Tryd.pinned (OpenSpec.ofChange ratLawsSpec)

/-- ITS FALSE NEIGHBOUR: 'it returns false'. Refute it at one input. -/
def ratLawsWrong : ChangeSpec := { name := "ratLaws", fn := fun _ => fun
  | [d1, d2, d3] => { results := [.lit (.bool false)], args := [d1, d2, d3] }
  | _ => none }
def RatLawsWrongFalsely : Prop := ratLawsRow.holds Tryd.pinned (OpenSpec.ofChange ratLawsWrong)

/-- 'tapewrightlaw03.RatUnits': WHATEVER THE INPUT: true; the input reads as it did. -/
def ratUnitsSpec : ChangeSpec := { name := "ratUnits", fn := fun _ => fun
  | [d] => { results := [.lit (.bool true)], args := [d] }
  | _ => none }
def ratUnitsRow : OpenClaim := { program := "ytfjlmiehbikmnaadoor", sum := "aa21435c72cb428469eff3cc71d5aa49b9e6fd28bcbb37346db98b52ecb53f30", func := "tapewright/tapewrightlaw03.RatUnits", spec := "ratUnits", inPlace := ["internal/bytealg.IndexByteString", "internal/bytealg.IndexString", "internal/reflectlite.TypeOf", "internal/reflectlite.ValueOf", "(internal/reflectlite.Value).Type", "(internal/reflectlite.Value).IsNil", "(internal/reflectlite.Value).Elem", "(internal/reflectlite.Value).Set"], unfollowed := true, recurses := true, named := ["tapewright/rat.errForm", "internal/bytealg.MaxLen", "tapewright/rat.errZero", "errors.errorType"], apart := false, laid := [("errors.errorType", laid_errors_errorType), ("tapewright/rat.errForm", laid_tapewright_rat_errForm), ("tapewright/rat.errZero", laid_tapewright_rat_errZero)] }
def RatUnitsSaid : Prop := ratUnitsRow.holds Tryd.pinned (OpenSpec.ofChange ratUnitsSpec)

/-- ITS FALSE NEIGHBOUR: 'it returns false'. Refute it at one input. -/
def ratUnitsWrong : ChangeSpec := { name := "ratUnits", fn := fun _ => fun
  | [d] => { results := [.lit (.bool false)], args := [d] }
  | _ => none }
def RatUnitsWrongFalsely : Prop := ratUnitsRow.holds Tryd.pinned (OpenSpec.ofChange ratUnitsWrong)

/-- 'tapewrightlaw03.RatSigns': WHATEVER THE INPUT: true; the input reads as it did. -/
def ratSignsSpec : ChangeSpec := { name := "ratSigns", fn := fun _ => fun
  | [d1, d2, d3] => { results := [.lit (.bool true)], args := [d1, d2, d3] }
  | _ => none }
def ratSignsRow : OpenClaim := { program := "ytfjlmiehbikmnaadoor", sum := "aa21435c72cb428469eff3cc71d5aa49b9e6fd28bcbb37346db98b52ecb53f30", func := "tapewright/tapewrightlaw03.RatSigns", spec := "ratSigns", inPlace := ["internal/bytealg.IndexByteString", "internal/bytealg.IndexString", "internal/reflectlite.TypeOf", "internal/reflectlite.ValueOf", "(internal/reflectlite.Value).Type", "(internal/reflectlite.Value).IsNil", "(internal/reflectlite.Value).Elem", "(internal/reflectlite.Value).Set"], unfollowed := true, recurses := true, named := ["tapewright/rat.errForm", "internal/bytealg.MaxLen", "tapewright/rat.errZero", "errors.errorType"], apart := false, laid := [("errors.errorType", laid_errors_errorType), ("tapewright/rat.errForm", laid_tapewright_rat_errForm), ("tapewright/rat.errZero", laid_tapewright_rat_errZero)] }
def RatSignsSaid : Prop := ratSignsRow.holds Tryd.pinned (OpenSpec.ofChange ratSignsSpec)

/-- ITS FALSE NEIGHBOUR: 'it returns false'. Refute it at one input. -/
def ratSignsWrong : ChangeSpec := { name := "ratSigns", fn := fun _ => fun
  | [d1, d2, d3] => { results := [.lit (.bool false)], args := [d1, d2, d3] }
  | _ => none }
def RatSignsWrongFalsely : Prop := ratSignsRow.holds Tryd.pinned (OpenSpec.ofChange ratSignsWrong)

/-- 'tapewrightlaw03.RatOne': WHATEVER THE INPUT: true; the input reads as it did. -/
def ratOneSpec : ChangeSpec := { name := "ratOne", fn := fun _ => fun
  | [d1, d2, d3] => { results := [.lit (.bool true)], args := [d1, d2, d3] }
  | _ => none }
def ratOneRow : OpenClaim := { program := "ytfjlmiehbikmnaadoor", sum := "aa21435c72cb428469eff3cc71d5aa49b9e6fd28bcbb37346db98b52ecb53f30", func := "tapewright/tapewrightlaw03.RatOne", spec := "ratOne", inPlace := ["internal/bytealg.IndexByteString", "internal/bytealg.IndexString", "internal/reflectlite.TypeOf", "internal/reflectlite.ValueOf", "(internal/reflectlite.Value).Type", "(internal/reflectlite.Value).IsNil", "(internal/reflectlite.Value).Elem", "(internal/reflectlite.Value).Set"], unfollowed := true, recurses := true, named := ["tapewright/rat.errForm", "internal/bytealg.MaxLen", "tapewright/rat.errZero", "errors.errorType"], apart := false, laid := [("errors.errorType", laid_errors_errorType), ("tapewright/rat.errForm", laid_tapewright_rat_errForm), ("tapewright/rat.errZero", laid_tapewright_rat_errZero)] }
def RatOneSaid : Prop := ratOneRow.holds Tryd.pinned (OpenSpec.ofChange ratOneSpec)

/-- ITS FALSE NEIGHBOUR: 'it returns false'. Refute it at one input. -/
def ratOneWrong : ChangeSpec := { name := "ratOne", fn := fun _ => fun
  | [d1, d2, d3] => { results := [.lit (.bool false)], args := [d1, d2, d3] }
  | _ => none }
def RatOneWrongFalsely : Prop := ratOneRow.holds Tryd.pinned (OpenSpec.ofChange ratOneWrong)

/-- 'tapewrightlaw03.RatOrder': WHATEVER THE INPUT: true; the input reads as it did. -/
def ratOrderSpec : ChangeSpec := { name := "ratOrder", fn := fun _ => fun
  | [d1, d2, d3] => { results := [.lit (.bool true)], args := [d1, d2, d3] }
  | _ => none }
def ratOrderRow : OpenClaim := { program := "ytfjlmiehbikmnaadoor", sum := "aa21435c72cb428469eff3cc71d5aa49b9e6fd28bcbb37346db98b52ecb53f30", func := "tapewright/tapewrightlaw03.RatOrder", spec := "ratOrder", inPlace := ["internal/bytealg.IndexByteString", "internal/bytealg.IndexString", "internal/reflectlite.TypeOf", "internal/reflectlite.ValueOf", "(internal/reflectlite.Value).Type", "(internal/reflectlite.Value).IsNil", "(internal/reflectlite.Value).Elem", "(internal/reflectlite.Value).Set"], unfollowed := true, recurses := true, named := ["tapewright/rat.errForm", "internal/bytealg.MaxLen", "tapewright/rat.errZero", "errors.errorType"], apart := false, laid := [("errors.errorType", laid_errors_errorType), ("tapewright/rat.errForm", laid_tapewright_rat_errForm), ("tapewright/rat.errZero", laid_tapewright_rat_errZero)] }
def RatOrderSaid : Prop := ratOrderRow.holds Tryd.pinned (OpenSpec.ofChange ratOrderSpec)

/-- ITS FALSE NEIGHBOUR: 'it returns false'. Refute it at one input. -/
def ratOrderWrong : ChangeSpec := { name := "ratOrder", fn := fun _ => fun
  | [d1, d2, d3] => { results := [.lit (.bool false)], args := [d1, d2, d3] }
  | _ => none }
def RatOrderWrongFalsely : Prop := ratOrderRow.holds Tryd.pinned (OpenSpec.ofChange ratOrderWrong)

/-- 'tapewrightlaw03.RatBetween': WHATEVER THE INPUT: true; the input reads as it did. -/
def ratBetweenSpec : ChangeSpec := { name := "ratBetween", fn := fun _ => fun
  | [d1, d2] => { results := [.lit (.bool true)], args := [d1, d2] }
  | _ => none }
def ratBetweenRow : OpenClaim := { program := "ytfjlmiehbikmnaadoor", sum := "aa21435c72cb428469eff3cc71d5aa49b9e6fd28bcbb37346db98b52ecb53f30", func := "tapewright/tapewrightlaw03.RatBetween", spec := "ratBetween", inPlace := ["internal/bytealg.IndexByteString", "internal/bytealg.IndexString", "internal/reflectlite.TypeOf", "internal/reflectlite.ValueOf", "(internal/reflectlite.Value).Type", "(internal/reflectlite.Value).IsNil", "(internal/reflectlite.Value).Elem", "(internal/reflectlite.Value).Set"], unfollowed := true, recurses := true, named := ["tapewright/rat.errForm", "internal/bytealg.MaxLen", "tapewright/rat.errZero", "errors.errorType"], apart := false, laid := [("errors.errorType", laid_errors_errorType), ("tapewright/rat.errForm", laid_tapewright_rat_errForm), ("tapewright/rat.errZero", laid_tapewright_rat_errZero)] }
def RatBetweenSaid : Prop := ratBetweenRow.holds Tryd.pinned (OpenSpec.ofChange ratBetweenSpec)

/-- ITS FALSE NEIGHBOUR: 'it returns false'. Refute it at one input. -/
def ratBetweenWrong : ChangeSpec := { name := "ratBetween", fn := fun _ => fun
  | [d1, d2] => { results := [.lit (.bool false)], args := [d1, d2] }
  | _ => none }
def RatBetweenWrongFalsely : Prop := ratBetweenRow.holds Tryd.pinned (OpenSpec.ofChange ratBetweenWrong)

/- THE SECOND FORM. 'bulk': how many values and letters a reading holds, each counted each time it is reached (what is shared counts as often as it is met; a slice's spare places count too). A statement '..UptoSaid' is the law's where the arguments, and the package variables that the reading takes, are together of bulk at most 1048576: NARROWER than '..Said'. Prove '..Said' where nothing that the law and all that it calls make is longer than what came in: it says more and counts as full. Else prove '..UptoSaid'. A law counts once. -/
mutual
def uptoBulk {H : Type} : DataW H → Nat
  | .lit (.string bytes) => bytes.length + 1
  | .lit _ => 1
  | .nil => 1
  | .ptr d => uptoBulk d + 1
  | .slice elems spare => uptoBulkAll elems + uptoBulkAll spare + 1
  | .agg parts => uptoBulkAll parts + 1
  | .iface _ d => uptoBulk d + 1
  | .map entries => uptoBulkEntries entries + 1
  | .held _ => 1
def uptoBulkAll {H : Type} : List (DataW H) → Nat
  | [] => 0
  | d :: r => uptoBulk d + uptoBulkAll r
def uptoBulkEntries {H : Type} : List (Lit × DataW H) → Nat
  | [] => 0
  | x :: r => uptoBulkEntry x + uptoBulkEntries r
def uptoBulkEntry {H : Type} : Lit × DataW H → Nat
  | (.string bytes, d) => bytes.length + uptoBulk d + 1
  | (_, d) => uptoBulk d + 1
 end
def uptoSmall : (H : Type) → List (DataW H) → Bool := fun _ ds => decide (uptoBulkAll ds ≤ 1048576)
def OpenSpec.upto (s : _root_.Go.ChangeSpec) : _root_.Go.OpenSpec := { _root_.Go.OpenSpec.ofChange s with cond := some uptoSmall }

/-- 'tapewrightlaw03.RatTexts', WHERE WHAT IT READS IS OF BULK AT MOST 1048576: true; the input reads as it did. -/
def ratTextsUptoRow : OpenClaim := { program := "ytfjlmiehbikmnaadoor", sum := "aa21435c72cb428469eff3cc71d5aa49b9e6fd28bcbb37346db98b52ecb53f30", func := "tapewright/tapewrightlaw03.RatTexts", spec := "ratTexts", inPlace := ["internal/bytealg.IndexByteString", "internal/bytealg.IndexString", "internal/reflectlite.TypeOf", "internal/reflectlite.ValueOf", "(internal/reflectlite.Value).Type", "(internal/reflectlite.Value).IsNil", "(internal/reflectlite.Value).Elem", "(internal/reflectlite.Value).Set"], unfollowed := true, recurses := true, named := ["tapewright/rat.errForm", "internal/bytealg.MaxLen", "tapewright/rat.errZero", "errors.errorType"], apart := false, laid := [("errors.errorType", laid_errors_errorType), ("tapewright/rat.errForm", laid_tapewright_rat_errForm), ("tapewright/rat.errZero", laid_tapewright_rat_errZero)], narrowed := true }
def RatTextsUptoSaid : Prop := ratTextsUptoRow.holds Tryd.pinned (OpenSpec.upto ratTextsSpec)

/-- 'tapewrightlaw03.RatQuos', WHERE WHAT IT READS IS OF BULK AT MOST 1048576: true; the input reads as it did. -/
def ratQuosUptoRow : OpenClaim := { program := "ytfjlmiehbikmnaadoor", sum := "aa21435c72cb428469eff3cc71d5aa49b9e6fd28bcbb37346db98b52ecb53f30", func := "tapewright/tapewrightlaw03.RatQuos", spec := "ratQuos", inPlace := ["internal/bytealg.IndexByteString", "internal/bytealg.IndexString", "internal/reflectlite.TypeOf", "internal/reflectlite.ValueOf", "(internal/reflectlite.Value).Type", "(internal/reflectlite.Value).IsNil", "(internal/reflectlite.Value).Elem", "(internal/reflectlite.Value).Set"], unfollowed := true, recurses := true, named := ["tapewright/rat.errForm", "internal/bytealg.MaxLen", "tapewright/rat.errZero", "errors.errorType"], apart := false, laid := [("errors.errorType", laid_errors_errorType), ("tapewright/rat.errForm", laid_tapewright_rat_errForm), ("tapewright/rat.errZero", laid_tapewright_rat_errZero)], narrowed := true }
def RatQuosUptoSaid : Prop := ratQuosUptoRow.holds Tryd.pinned (OpenSpec.upto ratQuosSpec)

/-- 'tapewrightlaw03.RatPowers', WHERE WHAT IT READS IS OF BULK AT MOST 1048576: true; the input reads as it did. -/
def ratPowersUptoRow : OpenClaim := { program := "ytfjlmiehbikmnaadoor", sum := "aa21435c72cb428469eff3cc71d5aa49b9e6fd28bcbb37346db98b52ecb53f30", func := "tapewright/tapewrightlaw03.RatPowers", spec := "ratPowers", inPlace := ["internal/bytealg.IndexByteString", "internal/bytealg.IndexString", "internal/reflectlite.TypeOf", "internal/reflectlite.ValueOf", "(internal/reflectlite.Value).Type", "(internal/reflectlite.Value).IsNil", "(internal/reflectlite.Value).Elem", "(internal/reflectlite.Value).Set"], unfollowed := true, recurses := true, named := ["tapewright/rat.errForm", "internal/bytealg.MaxLen", "tapewright/rat.errZero", "errors.errorType"], apart := false, laid := [("errors.errorType", laid_errors_errorType), ("tapewright/rat.errForm", laid_tapewright_rat_errForm), ("tapewright/rat.errZero", laid_tapewright_rat_errZero)], narrowed := true }
def RatPowersUptoSaid : Prop := ratPowersUptoRow.holds Tryd.pinned (OpenSpec.upto ratPowersSpec)

/-- 'tapewrightlaw03.RatLaws', WHERE WHAT IT READS IS OF BULK AT MOST 1048576: true; the input reads as it did. -/
def ratLawsUptoRow : OpenClaim := { program := "ytfjlmiehbikmnaadoor", sum := "aa21435c72cb428469eff3cc71d5aa49b9e6fd28bcbb37346db98b52ecb53f30", func := "tapewright/tapewrightlaw03.RatLaws", spec := "ratLaws", inPlace := ["internal/bytealg.IndexByteString", "internal/bytealg.IndexString", "internal/reflectlite.TypeOf", "internal/reflectlite.ValueOf", "(internal/reflectlite.Value).Type", "(internal/reflectlite.Value).IsNil", "(internal/reflectlite.Value).Elem", "(internal/reflectlite.Value).Set"], unfollowed := true, recurses := true, named := ["tapewright/rat.errForm", "internal/bytealg.MaxLen", "tapewright/rat.errZero", "errors.errorType"], apart := false, laid := [("errors.errorType", laid_errors_errorType), ("tapewright/rat.errForm", laid_tapewright_rat_errForm), ("tapewright/rat.errZero", laid_tapewright_rat_errZero)], narrowed := true }
def RatLawsUptoSaid : Prop := ratLawsUptoRow.holds Tryd.pinned (OpenSpec.upto ratLawsSpec)

/-- 'tapewrightlaw03.RatUnits', WHERE WHAT IT READS IS OF BULK AT MOST 1048576: true; the input reads as it did. -/
def ratUnitsUptoRow : OpenClaim := { program := "ytfjlmiehbikmnaadoor", sum := "aa21435c72cb428469eff3cc71d5aa49b9e6fd28bcbb37346db98b52ecb53f30", func := "tapewright/tapewrightlaw03.RatUnits", spec := "ratUnits", inPlace := ["internal/bytealg.IndexByteString", "internal/bytealg.IndexString", "internal/reflectlite.TypeOf", "internal/reflectlite.ValueOf", "(internal/reflectlite.Value).Type", "(internal/reflectlite.Value).IsNil", "(internal/reflectlite.Value).Elem", "(internal/reflectlite.Value).Set"], unfollowed := true, recurses := true, named := ["tapewright/rat.errForm", "internal/bytealg.MaxLen", "tapewright/rat.errZero", "errors.errorType"], apart := false, laid := [("errors.errorType", laid_errors_errorType), ("tapewright/rat.errForm", laid_tapewright_rat_errForm), ("tapewright/rat.errZero", laid_tapewright_rat_errZero)], narrowed := true }
def RatUnitsUptoSaid : Prop := ratUnitsUptoRow.holds Tryd.pinned (OpenSpec.upto ratUnitsSpec)

/-- 'tapewrightlaw03.RatSigns', WHERE WHAT IT READS IS OF BULK AT MOST 1048576: true; the input reads as it did. -/
def ratSignsUptoRow : OpenClaim := { program := "ytfjlmiehbikmnaadoor", sum := "aa21435c72cb428469eff3cc71d5aa49b9e6fd28bcbb37346db98b52ecb53f30", func := "tapewright/tapewrightlaw03.RatSigns", spec := "ratSigns", inPlace := ["internal/bytealg.IndexByteString", "internal/bytealg.IndexString", "internal/reflectlite.TypeOf", "internal/reflectlite.ValueOf", "(internal/reflectlite.Value).Type", "(internal/reflectlite.Value).IsNil", "(internal/reflectlite.Value).Elem", "(internal/reflectlite.Value).Set"], unfollowed := true, recurses := true, named := ["tapewright/rat.errForm", "internal/bytealg.MaxLen", "tapewright/rat.errZero", "errors.errorType"], apart := false, laid := [("errors.errorType", laid_errors_errorType), ("tapewright/rat.errForm", laid_tapewright_rat_errForm), ("tapewright/rat.errZero", laid_tapewright_rat_errZero)], narrowed := true }
def RatSignsUptoSaid : Prop := ratSignsUptoRow.holds Tryd.pinned (OpenSpec.upto ratSignsSpec)

/-- 'tapewrightlaw03.RatOne', WHERE WHAT IT READS IS OF BULK AT MOST 1048576: true; the input reads as it did. -/
def ratOneUptoRow : OpenClaim := { program := "ytfjlmiehbikmnaadoor", sum := "aa21435c72cb428469eff3cc71d5aa49b9e6fd28bcbb37346db98b52ecb53f30", func := "tapewright/tapewrightlaw03.RatOne", spec := "ratOne", inPlace := ["internal/bytealg.IndexByteString", "internal/bytealg.IndexString", "internal/reflectlite.TypeOf", "internal/reflectlite.ValueOf", "(internal/reflectlite.Value).Type", "(internal/reflectlite.Value).IsNil", "(internal/reflectlite.Value).Elem", "(internal/reflectlite.Value).Set"], unfollowed := true, recurses := true, named := ["tapewright/rat.errForm", "internal/bytealg.MaxLen", "tapewright/rat.errZero", "errors.errorType"], apart := false, laid := [("errors.errorType", laid_errors_errorType), ("tapewright/rat.errForm", laid_tapewright_rat_errForm), ("tapewright/rat.errZero", laid_tapewright_rat_errZero)], narrowed := true }
def RatOneUptoSaid : Prop := ratOneUptoRow.holds Tryd.pinned (OpenSpec.upto ratOneSpec)

/-- 'tapewrightlaw03.RatOrder', WHERE WHAT IT READS IS OF BULK AT MOST 1048576: true; the input reads as it did. -/
def ratOrderUptoRow : OpenClaim := { program := "ytfjlmiehbikmnaadoor", sum := "aa21435c72cb428469eff3cc71d5aa49b9e6fd28bcbb37346db98b52ecb53f30", func := "tapewright/tapewrightlaw03.RatOrder", spec := "ratOrder", inPlace := ["internal/bytealg.IndexByteString", "internal/bytealg.IndexString", "internal/reflectlite.TypeOf", "internal/reflectlite.ValueOf", "(internal/reflectlite.Value).Type", "(internal/reflectlite.Value).IsNil", "(internal/reflectlite.Value).Elem", "(internal/reflectlite.Value).Set"], unfollowed := true, recurses := true, named := ["tapewright/rat.errForm", "internal/bytealg.MaxLen", "tapewright/rat.errZero", "errors.errorType"], apart := false, laid := [("errors.errorType", laid_errors_errorType), ("tapewright/rat.errForm", laid_tapewright_rat_errForm), ("tapewright/rat.errZero", laid_tapewright_rat_errZero)], narrowed := true }
def RatOrderUptoSaid : Prop := ratOrderUptoRow.holds Tryd.pinned (OpenSpec.upto ratOrderSpec)

/-- 'tapewrightlaw03.RatBetween', WHERE WHAT IT READS IS OF BULK AT MOST 1048576: true; the input reads as it did. -/
def ratBetweenUptoRow : OpenClaim := { program := "ytfjlmiehbikmnaadoor", sum := "aa21435c72cb428469eff3cc71d5aa49b9e6fd28bcbb37346db98b52ecb53f30", func := "tapewright/tapewrightlaw03.RatBetween", spec := "ratBetween", inPlace := ["internal/bytealg.IndexByteString", "internal/bytealg.IndexString", "internal/reflectlite.TypeOf", "internal/reflectlite.ValueOf", "(internal/reflectlite.Value).Type", "(internal/reflectlite.Value).IsNil", "(internal/reflectlite.Value).Elem", "(internal/reflectlite.Value).Set"], unfollowed := true, recurses := true, named := ["tapewright/rat.errForm", "internal/bytealg.MaxLen", "tapewright/rat.errZero", "errors.errorType"], apart := false, laid := [("errors.errorType", laid_errors_errorType), ("tapewright/rat.errForm", laid_tapewright_rat_errForm), ("tapewright/rat.errZero", laid_tapewright_rat_errZero)], narrowed := true }
def RatBetweenUptoSaid : Prop := ratBetweenUptoRow.holds Tryd.pinned (OpenSpec.upto ratBetweenSpec)

end Rows
end Go.Proofs.YtfjlmiehbikmnaaDoor

/-
  NARROWER THAN 'FOR EVERY INPUT', by the rows' own cells (each row's printed sentence says how): RatMade: laid · RatSums: laid · RatMakes: laid.
  DERIVED. THE GIVEN ROWS OF THIS SEAT. 3 by the template 'for every input the law returns true; each argument reads behind the call as it read before'; 0 by the template 'total and deterministic' (their statements: YtfjlmiehbikmnaaGreatDoorTotals.lean).
  GIVEN WITH THE SEED: the statements are not yours to turn. If you find one false, say at which input.
  Laid BY PROGRAM, IN A SANDBOX (cutbox-rows.mjs): the forced cells as the released guide's own fill.sh prints them over the translation 28351d2b186e4d3e… (all of the seat's roots in one cut). By AI agents, Wed Nov 11 2026. No macro, syntax, notation, axiom, sorry.
-/
import Derived.Test.YtfjlmiehbikmnaaGreatDoorChecked
import GoSem.Claim
import GoSem.ClaimJoined
import GoSem.ClaimMapViews
import Derived.JoinedTies
import Derived.KernelRfl
namespace Go.Proofs.YtfjlmiehbikmnaaGreatDoor
/- THE CELL 'sum', in the pinned program and in every row, IS THE sha256 OF THE DUMP (.gsa) THAT YtfjlmiehbikmnaaGreatDoorProg.lean LOADS. Nothing in Lean hashes anything: it is a label: what it is worth is what the hold of that sum in a sandbox is worth. -/
noncomputable def Tryz.pinned : Pinned := { name := "ytfjlmiehbikmnaagreatdoor", sum := "28351d2b186e4d3e1d0b5777749556fd34696ef65d99610cc4c9b807a1554c89", checked := Tryz.checked }
namespace Rows
def none {H : Type} : Left H := { results := [], args := [] }

/- WHAT THE LISTED PACKAGE-LEVEL VARIABLES READ AS WHEN THE CALL BEGINS. Each datum BY PROGRAM (the guide's laid-datum.mjs) off the statement by which the dump's own 'gosem.cut.vars' lays the variable. In a bare row this is a premise. The card (YtfjlmiehbikmnaaGreatDoorCards.lean) ties it to the program's text. -/
def laid_errors_errorType {H : Type} : DataW H := .iface "internal/reflectlite.rtype" (.agg [.ptr (.lit (.string [101, 114, 114, 111, 114]))])
def laid_tapewright_rat_errForm {H : Type} : DataW H := .iface "*errors.errorString" (.ptr (.agg [.lit (.string [110, 111, 32, 114, 97, 116, 105, 111, 110, 97, 108])]))
def laid_tapewright_rat_errZero {H : Type} : DataW H := .iface "*errors.errorString" (.ptr (.agg [.lit (.string [98, 121, 32, 110, 111, 117, 103, 104, 116])]))

/-- 'tapewrightlaw03.RatMade': WHATEVER THE INPUT: true; the input reads as it did. -/
def ratMadeSpec : ChangeSpec := { name := "ratMade", fn := fun _ => fun
  | [d1, d2, d3] => { results := [.lit (.bool true)], args := [d1, d2, d3] }
  | _ => none }
def ratMadeRow : OpenClaim := { program := "ytfjlmiehbikmnaagreatdoor", sum := "28351d2b186e4d3e1d0b5777749556fd34696ef65d99610cc4c9b807a1554c89", func := "tapewright/tapewrightlaw03.RatMade", spec := "ratMade", inPlace := ["internal/bytealg.IndexByteString", "internal/bytealg.IndexString", "internal/reflectlite.TypeOf", "internal/reflectlite.ValueOf", "(internal/reflectlite.Value).Type", "(internal/reflectlite.Value).IsNil", "(internal/reflectlite.Value).Elem", "(internal/reflectlite.Value).Set"], unfollowed := true, recurses := true, named := ["tapewright/rat.errForm", "internal/bytealg.MaxLen", "tapewright/rat.errZero", "errors.errorType"], apart := false, laid := [("errors.errorType", laid_errors_errorType), ("tapewright/rat.errForm", laid_tapewright_rat_errForm), ("tapewright/rat.errZero", laid_tapewright_rat_errZero)] }
def RatMadeSaid : Prop := ratMadeRow.holds Tryz.pinned (OpenSpec.ofChange ratMadeSpec)

/-- ITS FALSE NEIGHBOUR: 'it returns false'. Refute it at one input. -/
def ratMadeWrong : ChangeSpec := { name := "ratMade", fn := fun _ => fun
  | [d1, d2, d3] => { results := [.lit (.bool false)], args := [d1, d2, d3] }
  | _ => none }
def RatMadeWrongFalsely : Prop := ratMadeRow.holds Tryz.pinned (OpenSpec.ofChange ratMadeWrong)

/-- 'tapewrightlaw03.RatSums': WHATEVER THE INPUT: true; the input reads as it did. -/
def ratSumsSpec : ChangeSpec := { name := "ratSums", fn := fun _ => fun
  | [d1, d2] => { results := [.lit (.bool true)], args := [d1, d2] }
  | _ => none }
def ratSumsRow : OpenClaim := { program := "ytfjlmiehbikmnaagreatdoor", sum := "28351d2b186e4d3e1d0b5777749556fd34696ef65d99610cc4c9b807a1554c89", func := "tapewright/tapewrightlaw03.RatSums", spec := "ratSums", inPlace := ["internal/bytealg.IndexByteString", "internal/bytealg.IndexString", "internal/reflectlite.TypeOf", "internal/reflectlite.ValueOf", "(internal/reflectlite.Value).Type", "(internal/reflectlite.Value).IsNil", "(internal/reflectlite.Value).Elem", "(internal/reflectlite.Value).Set"], unfollowed := true, recurses := true, named := ["tapewright/rat.errForm", "internal/bytealg.MaxLen", "tapewright/rat.errZero", "errors.errorType"], apart := false, laid := [("errors.errorType", laid_errors_errorType), ("tapewright/rat.errForm", laid_tapewright_rat_errForm), ("tapewright/rat.errZero", laid_tapewright_rat_errZero)] }
def RatSumsSaid : Prop := ratSumsRow.holds Tryz.pinned (OpenSpec.ofChange ratSumsSpec)

/-- ITS FALSE NEIGHBOUR: 'it returns false'. Refute it at one input. -/
def ratSumsWrong : ChangeSpec := { name := "ratSums", fn := fun _ => fun
  | [d1, d2] => { results := [.lit (.bool false)], args := [d1, d2] }
  | _ => none }
def RatSumsWrongFalsely : Prop := ratSumsRow.holds Tryz.pinned (OpenSpec.ofChange ratSumsWrong)

/-- 'tapewrightlaw03.RatMakes': WHATEVER THE INPUT: true; the input reads as it did. -/
def ratMakesSpec : ChangeSpec := { name := "ratMakes", fn := fun _ => fun
  | [d1, d2, d3] => { results := [.lit (.bool true)], args := [d1, d2, d3] }
  | _ => none }
def ratMakesRow : OpenClaim := { program := "ytfjlmiehbikmnaagreatdoor", sum := "28351d2b186e4d3e1d0b5777749556fd34696ef65d99610cc4c9b807a1554c89", func := "tapewright/tapewrightlaw03.RatMakes", spec := "ratMakes", inPlace := ["internal/bytealg.IndexByteString", "internal/bytealg.IndexString", "internal/reflectlite.TypeOf", "internal/reflectlite.ValueOf", "(internal/reflectlite.Value).Type", "(internal/reflectlite.Value).IsNil", "(internal/reflectlite.Value).Elem", "(internal/reflectlite.Value).Set"], unfollowed := true, recurses := true, named := ["tapewright/rat.errForm", "internal/bytealg.MaxLen", "tapewright/rat.errZero", "errors.errorType"], apart := false, laid := [("errors.errorType", laid_errors_errorType), ("tapewright/rat.errForm", laid_tapewright_rat_errForm), ("tapewright/rat.errZero", laid_tapewright_rat_errZero)] }
def RatMakesSaid : Prop := ratMakesRow.holds Tryz.pinned (OpenSpec.ofChange ratMakesSpec)

/-- ITS FALSE NEIGHBOUR: 'it returns false'. Refute it at one input. -/
def ratMakesWrong : ChangeSpec := { name := "ratMakes", fn := fun _ => fun
  | [d1, d2, d3] => { results := [.lit (.bool false)], args := [d1, d2, d3] }
  | _ => none }
def RatMakesWrongFalsely : Prop := ratMakesRow.holds Tryz.pinned (OpenSpec.ofChange ratMakesWrong)

/- THE SECOND FORM. 'bulk': how many values and letters a reading holds, each counted each time it is reached (what is shared counts as often as it is met; a slice's spare places count too). A statement '..UptoSaid' is the law's where the arguments, and the package variables that the reading takes, are together of bulk at most 1048576: NARROWER than '..Said'. Prove '..Said' where nothing that the law and all that it calls make is longer than what came in: it says more and counts as full. Else prove '..UptoSaid'. A law counts once. -/
mutual
def uptoBulk {H : Type} : DataW H → Nat
  | .lit (.string bytes) => bytes.length + 1
  | .lit _ => 1
  | .nil => 1
  | .ptr d => uptoBulk d + 1
  | .slice elems spare => uptoBulkAll elems + uptoBulkAll spare + 1
  | .agg parts => uptoBulkAll parts + 1
  | .iface _ d => uptoBulk d + 1
  | .map entries => uptoBulkEntries entries + 1
  | .held _ => 1
def uptoBulkAll {H : Type} : List (DataW H) → Nat
  | [] => 0
  | d :: r => uptoBulk d + uptoBulkAll r
def uptoBulkEntries {H : Type} : List (Lit × DataW H) → Nat
  | [] => 0
  | x :: r => uptoBulkEntry x + uptoBulkEntries r
def uptoBulkEntry {H : Type} : Lit × DataW H → Nat
  | (.string bytes, d) => bytes.length + uptoBulk d + 1
  | (_, d) => uptoBulk d + 1
 end
def uptoSmall : (H : Type) → List (DataW H) → Bool := fun _ ds => decide (uptoBulkAll ds ≤ 1048576)
def OpenSpec.upto (s : _root_.Go.ChangeSpec) : _root_.Go.OpenSpec := { _root_.Go.OpenSpec.ofChange s with cond := some uptoSmall }

/-- 'tapewrightlaw03.RatMade', WHERE WHAT IT READS IS OF BULK AT MOST 1048576: true; the input reads as it did. -/
def ratMadeUptoRow : OpenClaim := { program := "ytfjlmiehbikmnaagreatdoor", sum := "28351d2b186e4d3e1d0b5777749556fd34696ef65d99610cc4c9b807a1554c89", func := "tapewright/tapewrightlaw03.RatMade", spec := "ratMade", inPlace := ["internal/bytealg.IndexByteString", "internal/bytealg.IndexString", "internal/reflectlite.TypeOf", "internal/reflectlite.ValueOf", "(internal/reflectlite.Value).Type", "(internal/reflectlite.Value).IsNil", "(internal/reflectlite.Value).Elem", "(internal/reflectlite.Value).Set"], unfollowed := true, recurses := true, named := ["tapewright/rat.errForm", "internal/bytealg.MaxLen", "tapewright/rat.errZero", "errors.errorType"], apart := false, laid := [("errors.errorType", laid_errors_errorType), ("tapewright/rat.errForm", laid_tapewright_rat_errForm), ("tapewright/rat.errZero", laid_tapewright_rat_errZero)], narrowed := true }
def RatMadeUptoSaid : Prop := ratMadeUptoRow.holds Tryz.pinned (OpenSpec.upto ratMadeSpec)

/-- 'tapewrightlaw03.RatSums', WHERE WHAT IT READS IS OF BULK AT MOST 1048576: true; the input reads as it did. -/
def ratSumsUptoRow : OpenClaim := { program := "ytfjlmiehbikmnaagreatdoor", sum := "28351d2b186e4d3e1d0b5777749556fd34696ef65d99610cc4c9b807a1554c89", func := "tapewright/tapewrightlaw03.RatSums", spec := "ratSums", inPlace := ["internal/bytealg.IndexByteString", "internal/bytealg.IndexString", "internal/reflectlite.TypeOf", "internal/reflectlite.ValueOf", "(internal/reflectlite.Value).Type", "(internal/reflectlite.Value).IsNil", "(internal/reflectlite.Value).Elem", "(internal/reflectlite.Value).Set"], unfollowed := true, recurses := true, named := ["tapewright/rat.errForm", "internal/bytealg.MaxLen", "tapewright/rat.errZero", "errors.errorType"], apart := false, laid := [("errors.errorType", laid_errors_errorType), ("tapewright/rat.errForm", laid_tapewright_rat_errForm), ("tapewright/rat.errZero", laid_tapewright_rat_errZero)], narrowed := true }
def RatSumsUptoSaid : Prop := ratSumsUptoRow.holds Tryz.pinned (OpenSpec.upto ratSumsSpec)

/-- 'tapewrightlaw03.RatMakes', WHERE WHAT IT READS IS OF BULK AT MOST 1048576: true; the input reads as it did. -/
def ratMakesUptoRow : OpenClaim := { program := "ytfjlmiehbikmnaagreatdoor", sum := "28351d2b186e4d3e1d0b5777749556fd34696ef65d99610cc4c9b807a1554c89", func := "tapewright/tapewrightlaw03.RatMakes", spec := "ratMakes", inPlace := ["internal/bytealg.IndexByteString", "internal/bytealg.IndexString", "internal/reflectlite.TypeOf", "internal/reflectlite.ValueOf", "(internal/reflectlite.Value).Type", "(internal/reflectlite.Value).IsNil", "(internal/reflectlite.Value).Elem", "(internal/reflectlite.Value).Set"], unfollowed := true, recurses := true, named := ["tapewright/rat.errForm", "internal/bytealg.MaxLen", "tapewright/rat.errZero", "errors.errorType"], apart := false, laid := [("errors.errorType", laid_errors_errorType), ("tapewright/rat.errForm", laid_tapewright_rat_errForm), ("tapewright/rat.errZero", laid_tapewright_rat_errZero)], narrowed := true }
def RatMakesUptoSaid : Prop := ratMakesUptoRow.holds Tryz.pinned (OpenSpec.upto ratMakesSpec)

end Rows
end Go.Proofs.YtfjlmiehbikmnaaGreatDoor

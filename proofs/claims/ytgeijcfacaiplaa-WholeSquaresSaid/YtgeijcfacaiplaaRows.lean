/-
  No cell of these rows narrows 'for every input' (looked for: loops, veiled, ifaces, maps, wideKeys, modest, calm, conditions, laid).
  DERIVED. THE GIVEN ROWS OF THIS SEAT. 9 by the template 'for every input the law returns true; each argument reads behind the call as it read before'; 0 by the template 'total and deterministic' (their statements: YtgeijcfacaiplaaTotals.lean).
  GIVEN WITH THE SEED: the statements are not yours to turn. If you find one false, say at which input.
  Laid BY PROGRAM, IN A SANDBOX (cutbox-rows.mjs): the forced cells as the released guide's own fill.sh prints them over the translation c0f5c93cd80e61fe… (all of the seat's roots in one cut). By AI agents, Wed Nov 11 2026. No macro, syntax, notation, axiom, sorry.
-/
import Derived.Test.YtgeijcfacaiplaaChecked
import GoSem.Claim
import GoSem.ClaimJoined
import GoSem.ClaimMapViews
import Derived.JoinedTies
import Derived.KernelRfl
namespace Go.Proofs.Ytgeijcfacaiplaa
/- THE CELL 'sum', in the pinned program and in every row, IS THE sha256 OF THE DUMP (.gsa) THAT YtgeijcfacaiplaaProg.lean LOADS. Nothing in Lean hashes anything: it is a label: what it is worth is what the hold of that sum in a sandbox is worth. -/
noncomputable def Try.pinned : Pinned := { name := "ytgeijcfacaiplaa", sum := "c0f5c93cd80e61fe930a32da04ee1d11523c9918154fdb23a7bdeade0379fd18", checked := Try.checked }
namespace Rows
def none {H : Type} : Left H := { results := [], args := [] }

/-- 'tapewrightlaw02.WholeSums': WHATEVER THE INPUT: true; the input reads as it did. -/
def wholeSumsSpec : ChangeSpec := { name := "wholeSums", fn := fun _ => fun
  | [d1, d2] => { results := [.lit (.bool true)], args := [d1, d2] }
  | _ => none }
def wholeSumsRow : OpenClaim := { program := "ytgeijcfacaiplaa", sum := "c0f5c93cd80e61fe930a32da04ee1d11523c9918154fdb23a7bdeade0379fd18", func := "tapewright/tapewrightlaw02.WholeSums", spec := "wholeSums", unfollowed := true, recurses := true, apart := false }
def WholeSumsSaid : Prop := wholeSumsRow.holds Try.pinned (OpenSpec.ofChange wholeSumsSpec)

/-- ITS FALSE NEIGHBOUR: 'it returns false'. Refute it at one input. -/
def wholeSumsWrong : ChangeSpec := { name := "wholeSums", fn := fun _ => fun
  | [d1, d2] => { results := [.lit (.bool false)], args := [d1, d2] }
  | _ => none }
def WholeSumsWrongFalsely : Prop := wholeSumsRow.holds Try.pinned (OpenSpec.ofChange wholeSumsWrong)

/-- 'tapewrightlaw02.WholeLaws': WHATEVER THE INPUT: true; the input reads as it did. -/
def wholeLawsSpec : ChangeSpec := { name := "wholeLaws", fn := fun _ => fun
  | [d1, d2, d3] => { results := [.lit (.bool true)], args := [d1, d2, d3] }
  | _ => none }
def wholeLawsRow : OpenClaim := { program := "ytgeijcfacaiplaa", sum := "c0f5c93cd80e61fe930a32da04ee1d11523c9918154fdb23a7bdeade0379fd18", func := "tapewright/tapewrightlaw02.WholeLaws", spec := "wholeLaws", unfollowed := true, recurses := true, apart := false }
def WholeLawsSaid : Prop := wholeLawsRow.holds Try.pinned (OpenSpec.ofChange wholeLawsSpec)

/-- ITS FALSE NEIGHBOUR: 'it returns false'. Refute it at one input. -/
def wholeLawsWrong : ChangeSpec := { name := "wholeLaws", fn := fun _ => fun
  | [d1, d2, d3] => { results := [.lit (.bool false)], args := [d1, d2, d3] }
  | _ => none }
def WholeLawsWrongFalsely : Prop := wholeLawsRow.holds Try.pinned (OpenSpec.ofChange wholeLawsWrong)

/-- 'tapewrightlaw02.WholeUnits': WHATEVER THE INPUT: true; the input reads as it did. -/
def wholeUnitsSpec : ChangeSpec := { name := "wholeUnits", fn := fun _ => fun
  | [d] => { results := [.lit (.bool true)], args := [d] }
  | _ => none }
def wholeUnitsRow : OpenClaim := { program := "ytgeijcfacaiplaa", sum := "c0f5c93cd80e61fe930a32da04ee1d11523c9918154fdb23a7bdeade0379fd18", func := "tapewright/tapewrightlaw02.WholeUnits", spec := "wholeUnits", unfollowed := true, recurses := true, apart := false }
def WholeUnitsSaid : Prop := wholeUnitsRow.holds Try.pinned (OpenSpec.ofChange wholeUnitsSpec)

/-- ITS FALSE NEIGHBOUR: 'it returns false'. Refute it at one input. -/
def wholeUnitsWrong : ChangeSpec := { name := "wholeUnits", fn := fun _ => fun
  | [d] => { results := [.lit (.bool false)], args := [d] }
  | _ => none }
def WholeUnitsWrongFalsely : Prop := wholeUnitsRow.holds Try.pinned (OpenSpec.ofChange wholeUnitsWrong)

/-- 'tapewrightlaw02.WholeTwice': WHATEVER THE INPUT: true; the input reads as it did. -/
def wholeTwiceSpec : ChangeSpec := { name := "wholeTwice", fn := fun _ => fun
  | [d1, d2] => { results := [.lit (.bool true)], args := [d1, d2] }
  | _ => none }
def wholeTwiceRow : OpenClaim := { program := "ytgeijcfacaiplaa", sum := "c0f5c93cd80e61fe930a32da04ee1d11523c9918154fdb23a7bdeade0379fd18", func := "tapewright/tapewrightlaw02.WholeTwice", spec := "wholeTwice", unfollowed := true, recurses := true, apart := false }
def WholeTwiceSaid : Prop := wholeTwiceRow.holds Try.pinned (OpenSpec.ofChange wholeTwiceSpec)

/-- ITS FALSE NEIGHBOUR: 'it returns false'. Refute it at one input. -/
def wholeTwiceWrong : ChangeSpec := { name := "wholeTwice", fn := fun _ => fun
  | [d1, d2] => { results := [.lit (.bool false)], args := [d1, d2] }
  | _ => none }
def WholeTwiceWrongFalsely : Prop := wholeTwiceRow.holds Try.pinned (OpenSpec.ofChange wholeTwiceWrong)

/-- 'tapewrightlaw02.WholeSize': WHATEVER THE INPUT: true; the input reads as it did. -/
def wholeSizeSpec : ChangeSpec := { name := "wholeSize", fn := fun _ => fun
  | [d1, d2] => { results := [.lit (.bool true)], args := [d1, d2] }
  | _ => none }
def wholeSizeRow : OpenClaim := { program := "ytgeijcfacaiplaa", sum := "c0f5c93cd80e61fe930a32da04ee1d11523c9918154fdb23a7bdeade0379fd18", func := "tapewright/tapewrightlaw02.WholeSize", spec := "wholeSize", unfollowed := true, recurses := true, apart := false }
def WholeSizeSaid : Prop := wholeSizeRow.holds Try.pinned (OpenSpec.ofChange wholeSizeSpec)

/-- ITS FALSE NEIGHBOUR: 'it returns false'. Refute it at one input. -/
def wholeSizeWrong : ChangeSpec := { name := "wholeSize", fn := fun _ => fun
  | [d1, d2] => { results := [.lit (.bool false)], args := [d1, d2] }
  | _ => none }
def WholeSizeWrongFalsely : Prop := wholeSizeRow.holds Try.pinned (OpenSpec.ofChange wholeSizeWrong)

/-- 'tapewrightlaw02.WholeSquares': WHATEVER THE INPUT: true; the input reads as it did. -/
def wholeSquaresSpec : ChangeSpec := { name := "wholeSquares", fn := fun _ => fun
  | [d1, d2] => { results := [.lit (.bool true)], args := [d1, d2] }
  | _ => none }
def wholeSquaresRow : OpenClaim := { program := "ytgeijcfacaiplaa", sum := "c0f5c93cd80e61fe930a32da04ee1d11523c9918154fdb23a7bdeade0379fd18", func := "tapewright/tapewrightlaw02.WholeSquares", spec := "wholeSquares", unfollowed := true, recurses := true, apart := false }
def WholeSquaresSaid : Prop := wholeSquaresRow.holds Try.pinned (OpenSpec.ofChange wholeSquaresSpec)

/-- ITS FALSE NEIGHBOUR: 'it returns false'. Refute it at one input. -/
def wholeSquaresWrong : ChangeSpec := { name := "wholeSquares", fn := fun _ => fun
  | [d1, d2] => { results := [.lit (.bool false)], args := [d1, d2] }
  | _ => none }
def WholeSquaresWrongFalsely : Prop := wholeSquaresRow.holds Try.pinned (OpenSpec.ofChange wholeSquaresWrong)

/-- 'tapewrightlaw02.WholeSigns': WHATEVER THE INPUT: true; the input reads as it did. -/
def wholeSignsSpec : ChangeSpec := { name := "wholeSigns", fn := fun _ => fun
  | [d1, d2] => { results := [.lit (.bool true)], args := [d1, d2] }
  | _ => none }
def wholeSignsRow : OpenClaim := { program := "ytgeijcfacaiplaa", sum := "c0f5c93cd80e61fe930a32da04ee1d11523c9918154fdb23a7bdeade0379fd18", func := "tapewright/tapewrightlaw02.WholeSigns", spec := "wholeSigns", unfollowed := true, recurses := true, apart := false }
def WholeSignsSaid : Prop := wholeSignsRow.holds Try.pinned (OpenSpec.ofChange wholeSignsSpec)

/-- ITS FALSE NEIGHBOUR: 'it returns false'. Refute it at one input. -/
def wholeSignsWrong : ChangeSpec := { name := "wholeSigns", fn := fun _ => fun
  | [d1, d2] => { results := [.lit (.bool false)], args := [d1, d2] }
  | _ => none }
def WholeSignsWrongFalsely : Prop := wholeSignsRow.holds Try.pinned (OpenSpec.ofChange wholeSignsWrong)

/-- 'tapewrightlaw02.WholeBack': WHATEVER THE INPUT: true; the input reads as it did. -/
def wholeBackSpec : ChangeSpec := { name := "wholeBack", fn := fun _ => fun
  | [d1, d2] => { results := [.lit (.bool true)], args := [d1, d2] }
  | _ => none }
def wholeBackRow : OpenClaim := { program := "ytgeijcfacaiplaa", sum := "c0f5c93cd80e61fe930a32da04ee1d11523c9918154fdb23a7bdeade0379fd18", func := "tapewright/tapewrightlaw02.WholeBack", spec := "wholeBack", unfollowed := true, recurses := true, apart := false }
def WholeBackSaid : Prop := wholeBackRow.holds Try.pinned (OpenSpec.ofChange wholeBackSpec)

/-- ITS FALSE NEIGHBOUR: 'it returns false'. Refute it at one input. -/
def wholeBackWrong : ChangeSpec := { name := "wholeBack", fn := fun _ => fun
  | [d1, d2] => { results := [.lit (.bool false)], args := [d1, d2] }
  | _ => none }
def WholeBackWrongFalsely : Prop := wholeBackRow.holds Try.pinned (OpenSpec.ofChange wholeBackWrong)

/-- 'tapewrightlaw02.WholeOrder': WHATEVER THE INPUT: true; the input reads as it did. -/
def wholeOrderSpec : ChangeSpec := { name := "wholeOrder", fn := fun _ => fun
  | [d1, d2, d3] => { results := [.lit (.bool true)], args := [d1, d2, d3] }
  | _ => none }
def wholeOrderRow : OpenClaim := { program := "ytgeijcfacaiplaa", sum := "c0f5c93cd80e61fe930a32da04ee1d11523c9918154fdb23a7bdeade0379fd18", func := "tapewright/tapewrightlaw02.WholeOrder", spec := "wholeOrder", unfollowed := true, recurses := true, apart := false }
def WholeOrderSaid : Prop := wholeOrderRow.holds Try.pinned (OpenSpec.ofChange wholeOrderSpec)

/-- ITS FALSE NEIGHBOUR: 'it returns false'. Refute it at one input. -/
def wholeOrderWrong : ChangeSpec := { name := "wholeOrder", fn := fun _ => fun
  | [d1, d2, d3] => { results := [.lit (.bool false)], args := [d1, d2, d3] }
  | _ => none }
def WholeOrderWrongFalsely : Prop := wholeOrderRow.holds Try.pinned (OpenSpec.ofChange wholeOrderWrong)

/- THE SECOND FORM. 'bulk': how many values and letters a reading holds, each counted each time it is reached (what is shared counts as often as it is met; a slice's spare places count too). A statement '..UptoSaid' is the law's where the arguments, and the package variables that the reading takes, are together of bulk at most 1048576: NARROWER than '..Said'. Prove '..Said' where nothing that the law and all that it calls make is longer than what came in: it says more and counts as full. Else prove '..UptoSaid'. A law counts once. -/
mutual
def uptoBulk {H : Type} : DataW H → Nat
  | .lit (.string bytes) => bytes.length + 1
  | .lit _ => 1
  | .nil => 1
  | .ptr d => uptoBulk d + 1
  | .slice elems spare => uptoBulkAll elems + uptoBulkAll spare + 1
  | .agg parts => uptoBulkAll parts + 1
  | .iface _ d => uptoBulk d + 1
  | .map entries => uptoBulkEntries entries + 1
  | .held _ => 1
def uptoBulkAll {H : Type} : List (DataW H) → Nat
  | [] => 0
  | d :: r => uptoBulk d + uptoBulkAll r
def uptoBulkEntries {H : Type} : List (Lit × DataW H) → Nat
  | [] => 0
  | x :: r => uptoBulkEntry x + uptoBulkEntries r
def uptoBulkEntry {H : Type} : Lit × DataW H → Nat
  | (.string bytes, d) => bytes.length + uptoBulk d + 1
  | (_, d) => uptoBulk d + 1
 end
def uptoSmall : (H : Type) → List (DataW H) → Bool := fun _ ds => decide (uptoBulkAll ds ≤ 1048576)
def OpenSpec.upto (s : _root_.Go.ChangeSpec) : _root_.Go.OpenSpec := { _root_.Go.OpenSpec.ofChange s with cond := some uptoSmall }

/-- 'tapewrightlaw02.WholeSums', WHERE WHAT IT READS IS OF BULK AT MOST 1048576: true; the input reads as it did. -/
def wholeSumsUptoRow : OpenClaim := { program := "ytgeijcfacaiplaa", sum := "c0f5c93cd80e61fe930a32da04ee1d11523c9918154fdb23a7bdeade0379fd18", func := "tapewright/tapewrightlaw02.WholeSums", spec := "wholeSums", unfollowed := true, recurses := true, apart := false, narrowed := true }
def WholeSumsUptoSaid : Prop := wholeSumsUptoRow.holds Try.pinned (OpenSpec.upto wholeSumsSpec)

/-- 'tapewrightlaw02.WholeLaws', WHERE WHAT IT READS IS OF BULK AT MOST 1048576: true; the input reads as it did. -/
def wholeLawsUptoRow : OpenClaim := { program := "ytgeijcfacaiplaa", sum := "c0f5c93cd80e61fe930a32da04ee1d11523c9918154fdb23a7bdeade0379fd18", func := "tapewright/tapewrightlaw02.WholeLaws", spec := "wholeLaws", unfollowed := true, recurses := true, apart := false, narrowed := true }
def WholeLawsUptoSaid : Prop := wholeLawsUptoRow.holds Try.pinned (OpenSpec.upto wholeLawsSpec)

/-- 'tapewrightlaw02.WholeUnits', WHERE WHAT IT READS IS OF BULK AT MOST 1048576: true; the input reads as it did. -/
def wholeUnitsUptoRow : OpenClaim := { program := "ytgeijcfacaiplaa", sum := "c0f5c93cd80e61fe930a32da04ee1d11523c9918154fdb23a7bdeade0379fd18", func := "tapewright/tapewrightlaw02.WholeUnits", spec := "wholeUnits", unfollowed := true, recurses := true, apart := false, narrowed := true }
def WholeUnitsUptoSaid : Prop := wholeUnitsUptoRow.holds Try.pinned (OpenSpec.upto wholeUnitsSpec)

/-- 'tapewrightlaw02.WholeTwice', WHERE WHAT IT READS IS OF BULK AT MOST 1048576: true; the input reads as it did. -/
def wholeTwiceUptoRow : OpenClaim := { program := "ytgeijcfacaiplaa", sum := "c0f5c93cd80e61fe930a32da04ee1d11523c9918154fdb23a7bdeade0379fd18", func := "tapewright/tapewrightlaw02.WholeTwice", spec := "wholeTwice", unfollowed := true, recurses := true, apart := false, narrowed := true }
def WholeTwiceUptoSaid : Prop := wholeTwiceUptoRow.holds Try.pinned (OpenSpec.upto wholeTwiceSpec)

/-- 'tapewrightlaw02.WholeSize', WHERE WHAT IT READS IS OF BULK AT MOST 1048576: true; the input reads as it did. -/
def wholeSizeUptoRow : OpenClaim := { program := "ytgeijcfacaiplaa", sum := "c0f5c93cd80e61fe930a32da04ee1d11523c9918154fdb23a7bdeade0379fd18", func := "tapewright/tapewrightlaw02.WholeSize", spec := "wholeSize", unfollowed := true, recurses := true, apart := false, narrowed := true }
def WholeSizeUptoSaid : Prop := wholeSizeUptoRow.holds Try.pinned (OpenSpec.upto wholeSizeSpec)

/-- 'tapewrightlaw02.WholeSquares', WHERE WHAT IT READS IS OF BULK AT MOST 1048576: true; the input reads as it did. -/
def wholeSquaresUptoRow : OpenClaim := { program := "ytgeijcfacaiplaa", sum := "c0f5c93cd80e61fe930a32da04ee1d11523c9918154fdb23a7bdeade0379fd18", func := "tapewright/tapewrightlaw02.WholeSquares", spec := "wholeSquares", unfollowed := true, recurses := true, apart := false, narrowed := true }
def WholeSquaresUptoSaid : Prop := wholeSquaresUptoRow.holds Try.pinned (OpenSpec.upto wholeSquaresSpec)

/-- 'tapewrightlaw02.WholeSigns', WHERE WHAT IT READS IS OF BULK AT MOST 1048576: true; the input reads as it did. -/
def wholeSignsUptoRow : OpenClaim := { program := "ytgeijcfacaiplaa", sum := "c0f5c93cd80e61fe930a32da04ee1d11523c9918154fdb23a7bdeade0379fd18", func := "tapewright/tapewrightlaw02.WholeSigns", spec := "wholeSigns", unfollowed := true, recurses := true, apart := false, narrowed := true }
def WholeSignsUptoSaid : Prop := wholeSignsUptoRow.holds Try.pinned (OpenSpec.upto wholeSignsSpec)

/-- 'tapewrightlaw02.WholeBack', WHERE WHAT IT READS IS OF BULK AT MOST 1048576: true; the input reads as it did. -/
def wholeBackUptoRow : OpenClaim := { program := "ytgeijcfacaiplaa", sum := "c0f5c93cd80e61fe930a32da04ee1d11523c9918154fdb23a7bdeade0379fd18", func := "tapewright/tapewrightlaw02.WholeBack", spec := "wholeBack", unfollowed := true, recurses := true, apart := false, narrowed := true }
def WholeBackUptoSaid : Prop := wholeBackUptoRow.holds Try.pinned (OpenSpec.upto wholeBackSpec)

/-- 'tapewrightlaw02.WholeOrder', WHERE WHAT IT READS IS OF BULK AT MOST 1048576: true; the input reads as it did. -/
def wholeOrderUptoRow : OpenClaim := { program := "ytgeijcfacaiplaa", sum := "c0f5c93cd80e61fe930a32da04ee1d11523c9918154fdb23a7bdeade0379fd18", func := "tapewright/tapewrightlaw02.WholeOrder", spec := "wholeOrder", unfollowed := true, recurses := true, apart := false, narrowed := true }
def WholeOrderUptoSaid : Prop := wholeOrderUptoRow.holds Try.pinned (OpenSpec.upto wholeOrderSpec)

end Rows
end Go.Proofs.Ytgeijcfacaiplaa

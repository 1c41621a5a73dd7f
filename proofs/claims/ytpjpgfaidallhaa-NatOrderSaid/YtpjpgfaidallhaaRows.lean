/-
  No cell of these rows narrows 'for every input' (looked for: loops, veiled, ifaces, maps, wideKeys, modest, calm, conditions, laid).
  DERIVED. THE GIVEN ROWS OF THIS SEAT. 11 by the template 'for every input the law returns true; each argument reads behind the call as it read before'; 0 by the template 'total and deterministic' (their statements: YtpjpgfaidallhaaTotals.lean).
  GIVEN WITH THE SEED: the statements are not yours to turn. If you find one false, say at which input.
  Laid BY PROGRAM, IN A SANDBOX (cutbox-rows.mjs): the forced cells as the released guide's own fill.sh prints them over the translation 5bb295e67e93ec98… (all of the seat's roots in one cut). By AI agents, Wed Nov 11 2026. No macro, syntax, notation, axiom, sorry.
-/
import Derived.Test.YtpjpgfaidallhaaChecked
import GoSem.Claim
import GoSem.ClaimJoined
import GoSem.ClaimMapViews
import Derived.JoinedTies
import Derived.KernelRfl
namespace Go.Proofs.Ytpjpgfaidallhaa
/- THE CELL 'sum', in the pinned program and in every row, IS THE sha256 OF THE DUMP (.gsa) THAT YtpjpgfaidallhaaProg.lean LOADS. Nothing in Lean hashes anything: it is a label: what it is worth is what the hold of that sum in a sandbox is worth. -/
noncomputable def Try.pinned : Pinned := { name := "ytpjpgfaidallhaa", sum := "5bb295e67e93ec983ec33e42298df0d4835dcd86cd2654497121e6c6dd844e4e", checked := Try.checked }
namespace Rows
def none {H : Type} : Left H := { results := [], args := [] }

/-- 'tapewrightlaw01.NatParts': WHATEVER THE INPUT: true; the input reads as it did. -/
def natPartsSpec : ChangeSpec := { name := "natParts", fn := fun _ => fun
  | [d1, d2, d3] => { results := [.lit (.bool true)], args := [d1, d2, d3] }
  | _ => none }
def natPartsRow : OpenClaim := { program := "ytpjpgfaidallhaa", sum := "5bb295e67e93ec983ec33e42298df0d4835dcd86cd2654497121e6c6dd844e4e", func := "tapewright/tapewrightlaw01.NatParts", spec := "natParts", unfollowed := true, recurses := true, apart := false }
def NatPartsSaid : Prop := natPartsRow.holds Try.pinned (OpenSpec.ofChange natPartsSpec)

/-- ITS FALSE NEIGHBOUR: 'it returns false'. Refute it at one input. -/
def natPartsWrong : ChangeSpec := { name := "natParts", fn := fun _ => fun
  | [d1, d2, d3] => { results := [.lit (.bool false)], args := [d1, d2, d3] }
  | _ => none }
def NatPartsWrongFalsely : Prop := natPartsRow.holds Try.pinned (OpenSpec.ofChange natPartsWrong)

/-- 'tapewrightlaw01.NatDivs': WHATEVER THE INPUT: true; the input reads as it did. -/
def natDivsSpec : ChangeSpec := { name := "natDivs", fn := fun _ => fun
  | [d1, d2] => { results := [.lit (.bool true)], args := [d1, d2] }
  | _ => none }
def natDivsRow : OpenClaim := { program := "ytpjpgfaidallhaa", sum := "5bb295e67e93ec983ec33e42298df0d4835dcd86cd2654497121e6c6dd844e4e", func := "tapewright/tapewrightlaw01.NatDivs", spec := "natDivs", unfollowed := true, recurses := true, apart := false }
def NatDivsSaid : Prop := natDivsRow.holds Try.pinned (OpenSpec.ofChange natDivsSpec)

/-- ITS FALSE NEIGHBOUR: 'it returns false'. Refute it at one input. -/
def natDivsWrong : ChangeSpec := { name := "natDivs", fn := fun _ => fun
  | [d1, d2] => { results := [.lit (.bool false)], args := [d1, d2] }
  | _ => none }
def NatDivsWrongFalsely : Prop := natDivsRow.holds Try.pinned (OpenSpec.ofChange natDivsWrong)

/-- 'tapewrightlaw01.NatGcds': WHATEVER THE INPUT: true; the input reads as it did. -/
def natGcdsSpec : ChangeSpec := { name := "natGcds", fn := fun _ => fun
  | [d1, d2, d3] => { results := [.lit (.bool true)], args := [d1, d2, d3] }
  | _ => none }
def natGcdsRow : OpenClaim := { program := "ytpjpgfaidallhaa", sum := "5bb295e67e93ec983ec33e42298df0d4835dcd86cd2654497121e6c6dd844e4e", func := "tapewright/tapewrightlaw01.NatGcds", spec := "natGcds", unfollowed := true, recurses := true, apart := false }
def NatGcdsSaid : Prop := natGcdsRow.holds Try.pinned (OpenSpec.ofChange natGcdsSpec)

/-- ITS FALSE NEIGHBOUR: 'it returns false'. Refute it at one input. -/
def natGcdsWrong : ChangeSpec := { name := "natGcds", fn := fun _ => fun
  | [d1, d2, d3] => { results := [.lit (.bool false)], args := [d1, d2, d3] }
  | _ => none }
def NatGcdsWrongFalsely : Prop := natGcdsRow.holds Try.pinned (OpenSpec.ofChange natGcdsWrong)

/-- 'tapewrightlaw01.NatDigits': WHATEVER THE INPUT: true; the input reads as it did. -/
def natDigitsSpec : ChangeSpec := { name := "natDigits", fn := fun _ => fun
  | [d] => { results := [.lit (.bool true)], args := [d] }
  | _ => none }
def natDigitsRow : OpenClaim := { program := "ytpjpgfaidallhaa", sum := "5bb295e67e93ec983ec33e42298df0d4835dcd86cd2654497121e6c6dd844e4e", func := "tapewright/tapewrightlaw01.NatDigits", spec := "natDigits", unfollowed := true, recurses := true, apart := false }
def NatDigitsSaid : Prop := natDigitsRow.holds Try.pinned (OpenSpec.ofChange natDigitsSpec)

/-- ITS FALSE NEIGHBOUR: 'it returns false'. Refute it at one input. -/
def natDigitsWrong : ChangeSpec := { name := "natDigits", fn := fun _ => fun
  | [d] => { results := [.lit (.bool false)], args := [d] }
  | _ => none }
def NatDigitsWrongFalsely : Prop := natDigitsRow.holds Try.pinned (OpenSpec.ofChange natDigitsWrong)

/-- 'tapewrightlaw01.NatLaws': WHATEVER THE INPUT: true; the input reads as it did. -/
def natLawsSpec : ChangeSpec := { name := "natLaws", fn := fun _ => fun
  | [d1, d2, d3] => { results := [.lit (.bool true)], args := [d1, d2, d3] }
  | _ => none }
def natLawsRow : OpenClaim := { program := "ytpjpgfaidallhaa", sum := "5bb295e67e93ec983ec33e42298df0d4835dcd86cd2654497121e6c6dd844e4e", func := "tapewright/tapewrightlaw01.NatLaws", spec := "natLaws", unfollowed := true, recurses := true, apart := false }
def NatLawsSaid : Prop := natLawsRow.holds Try.pinned (OpenSpec.ofChange natLawsSpec)

/-- ITS FALSE NEIGHBOUR: 'it returns false'. Refute it at one input. -/
def natLawsWrong : ChangeSpec := { name := "natLaws", fn := fun _ => fun
  | [d1, d2, d3] => { results := [.lit (.bool false)], args := [d1, d2, d3] }
  | _ => none }
def NatLawsWrongFalsely : Prop := natLawsRow.holds Try.pinned (OpenSpec.ofChange natLawsWrong)

/-- 'tapewrightlaw01.NatOrder': WHATEVER THE INPUT: true; the input reads as it did. -/
def natOrderSpec : ChangeSpec := { name := "natOrder", fn := fun _ => fun
  | [d1, d2, d3] => { results := [.lit (.bool true)], args := [d1, d2, d3] }
  | _ => none }
def natOrderRow : OpenClaim := { program := "ytpjpgfaidallhaa", sum := "5bb295e67e93ec983ec33e42298df0d4835dcd86cd2654497121e6c6dd844e4e", func := "tapewright/tapewrightlaw01.NatOrder", spec := "natOrder", unfollowed := true, recurses := true, apart := false }
def NatOrderSaid : Prop := natOrderRow.holds Try.pinned (OpenSpec.ofChange natOrderSpec)

/-- ITS FALSE NEIGHBOUR: 'it returns false'. Refute it at one input. -/
def natOrderWrong : ChangeSpec := { name := "natOrder", fn := fun _ => fun
  | [d1, d2, d3] => { results := [.lit (.bool false)], args := [d1, d2, d3] }
  | _ => none }
def NatOrderWrongFalsely : Prop := natOrderRow.holds Try.pinned (OpenSpec.ofChange natOrderWrong)

/-- 'tapewrightlaw01.NatBack': WHATEVER THE INPUT: true; the input reads as it did. -/
def natBackSpec : ChangeSpec := { name := "natBack", fn := fun _ => fun
  | [d1, d2] => { results := [.lit (.bool true)], args := [d1, d2] }
  | _ => none }
def natBackRow : OpenClaim := { program := "ytpjpgfaidallhaa", sum := "5bb295e67e93ec983ec33e42298df0d4835dcd86cd2654497121e6c6dd844e4e", func := "tapewright/tapewrightlaw01.NatBack", spec := "natBack", unfollowed := true, recurses := true, apart := false }
def NatBackSaid : Prop := natBackRow.holds Try.pinned (OpenSpec.ofChange natBackSpec)

/-- ITS FALSE NEIGHBOUR: 'it returns false'. Refute it at one input. -/
def natBackWrong : ChangeSpec := { name := "natBack", fn := fun _ => fun
  | [d1, d2] => { results := [.lit (.bool false)], args := [d1, d2] }
  | _ => none }
def NatBackWrongFalsely : Prop := natBackRow.holds Try.pinned (OpenSpec.ofChange natBackWrong)

/-- 'tapewrightlaw01.NatSquares': WHATEVER THE INPUT: true; the input reads as it did. -/
def natSquaresSpec : ChangeSpec := { name := "natSquares", fn := fun _ => fun
  | [d1, d2] => { results := [.lit (.bool true)], args := [d1, d2] }
  | _ => none }
def natSquaresRow : OpenClaim := { program := "ytpjpgfaidallhaa", sum := "5bb295e67e93ec983ec33e42298df0d4835dcd86cd2654497121e6c6dd844e4e", func := "tapewright/tapewrightlaw01.NatSquares", spec := "natSquares", unfollowed := true, recurses := true, apart := false }
def NatSquaresSaid : Prop := natSquaresRow.holds Try.pinned (OpenSpec.ofChange natSquaresSpec)

/-- ITS FALSE NEIGHBOUR: 'it returns false'. Refute it at one input. -/
def natSquaresWrong : ChangeSpec := { name := "natSquares", fn := fun _ => fun
  | [d1, d2] => { results := [.lit (.bool false)], args := [d1, d2] }
  | _ => none }
def NatSquaresWrongFalsely : Prop := natSquaresRow.holds Try.pinned (OpenSpec.ofChange natSquaresWrong)

/-- 'tapewrightlaw01.NatSums': WHATEVER THE INPUT: true; the input reads as it did. -/
def natSumsSpec : ChangeSpec := { name := "natSums", fn := fun _ => fun
  | [d1, d2] => { results := [.lit (.bool true)], args := [d1, d2] }
  | _ => none }
def natSumsRow : OpenClaim := { program := "ytpjpgfaidallhaa", sum := "5bb295e67e93ec983ec33e42298df0d4835dcd86cd2654497121e6c6dd844e4e", func := "tapewright/tapewrightlaw01.NatSums", spec := "natSums", unfollowed := true, recurses := true, apart := false }
def NatSumsSaid : Prop := natSumsRow.holds Try.pinned (OpenSpec.ofChange natSumsSpec)

/-- ITS FALSE NEIGHBOUR: 'it returns false'. Refute it at one input. -/
def natSumsWrong : ChangeSpec := { name := "natSums", fn := fun _ => fun
  | [d1, d2] => { results := [.lit (.bool false)], args := [d1, d2] }
  | _ => none }
def NatSumsWrongFalsely : Prop := natSumsRow.holds Try.pinned (OpenSpec.ofChange natSumsWrong)

/-- 'tapewrightlaw01.NatGrows': WHATEVER THE INPUT: true; the input reads as it did. -/
def natGrowsSpec : ChangeSpec := { name := "natGrows", fn := fun _ => fun
  | [d1, d2] => { results := [.lit (.bool true)], args := [d1, d2] }
  | _ => none }
def natGrowsRow : OpenClaim := { program := "ytpjpgfaidallhaa", sum := "5bb295e67e93ec983ec33e42298df0d4835dcd86cd2654497121e6c6dd844e4e", func := "tapewright/tapewrightlaw01.NatGrows", spec := "natGrows", unfollowed := true, recurses := true, apart := false }
def NatGrowsSaid : Prop := natGrowsRow.holds Try.pinned (OpenSpec.ofChange natGrowsSpec)

/-- ITS FALSE NEIGHBOUR: 'it returns false'. Refute it at one input. -/
def natGrowsWrong : ChangeSpec := { name := "natGrows", fn := fun _ => fun
  | [d1, d2] => { results := [.lit (.bool false)], args := [d1, d2] }
  | _ => none }
def NatGrowsWrongFalsely : Prop := natGrowsRow.holds Try.pinned (OpenSpec.ofChange natGrowsWrong)

/-- 'tapewrightlaw01.NatOnes': WHATEVER THE INPUT: true; the input reads as it did. -/
def natOnesSpec : ChangeSpec := { name := "natOnes", fn := fun _ => fun
  | [d] => { results := [.lit (.bool true)], args := [d] }
  | _ => none }
def natOnesRow : OpenClaim := { program := "ytpjpgfaidallhaa", sum := "5bb295e67e93ec983ec33e42298df0d4835dcd86cd2654497121e6c6dd844e4e", func := "tapewright/tapewrightlaw01.NatOnes", spec := "natOnes", unfollowed := true, recurses := true, apart := false }
def NatOnesSaid : Prop := natOnesRow.holds Try.pinned (OpenSpec.ofChange natOnesSpec)

/-- ITS FALSE NEIGHBOUR: 'it returns false'. Refute it at one input. -/
def natOnesWrong : ChangeSpec := { name := "natOnes", fn := fun _ => fun
  | [d] => { results := [.lit (.bool false)], args := [d] }
  | _ => none }
def NatOnesWrongFalsely : Prop := natOnesRow.holds Try.pinned (OpenSpec.ofChange natOnesWrong)

/- THE SECOND FORM. 'bulk': how many values and letters a reading holds, each counted each time it is reached (what is shared counts as often as it is met; a slice's spare places count too). A statement '..UptoSaid' is the law's where the arguments, and the package variables that the reading takes, are together of bulk at most 1048576: NARROWER than '..Said'. Prove '..Said' where nothing that the law and all that it calls make is longer than what came in: it says more and counts as full. Else prove '..UptoSaid'. A law counts once. -/
mutual
def uptoBulk {H : Type} : DataW H → Nat
  | .lit (.string bytes) => bytes.length + 1
  | .lit _ => 1
  | .nil => 1
  | .ptr d => uptoBulk d + 1
  | .slice elems spare => uptoBulkAll elems + uptoBulkAll spare + 1
  | .agg parts => uptoBulkAll parts + 1
  | .iface _ d => uptoBulk d + 1
  | .map entries => uptoBulkEntries entries + 1
  | .held _ => 1
def uptoBulkAll {H : Type} : List (DataW H) → Nat
  | [] => 0
  | d :: r => uptoBulk d + uptoBulkAll r
def uptoBulkEntries {H : Type} : List (Lit × DataW H) → Nat
  | [] => 0
  | x :: r => uptoBulkEntry x + uptoBulkEntries r
def uptoBulkEntry {H : Type} : Lit × DataW H → Nat
  | (.string bytes, d) => bytes.length + uptoBulk d + 1
  | (_, d) => uptoBulk d + 1
 end
def uptoSmall : (H : Type) → List (DataW H) → Bool := fun _ ds => decide (uptoBulkAll ds ≤ 1048576)
def OpenSpec.upto (s : _root_.Go.ChangeSpec) : _root_.Go.OpenSpec := { _root_.Go.OpenSpec.ofChange s with cond := some uptoSmall }

/-- 'tapewrightlaw01.NatParts', WHERE WHAT IT READS IS OF BULK AT MOST 1048576: true; the input reads as it did. -/
def natPartsUptoRow : OpenClaim := { program := "ytpjpgfaidallhaa", sum := "5bb295e67e93ec983ec33e42298df0d4835dcd86cd2654497121e6c6dd844e4e", func := "tapewright/tapewrightlaw01.NatParts", spec := "natParts", unfollowed := true, recurses := true, apart := false, narrowed := true }
def NatPartsUptoSaid : Prop := natPartsUptoRow.holds Try.pinned (OpenSpec.upto natPartsSpec)

/-- 'tapewrightlaw01.NatDivs', WHERE WHAT IT READS IS OF BULK AT MOST 1048576: true; the input reads as it did. -/
def natDivsUptoRow : OpenClaim := { program := "ytpjpgfaidallhaa", sum := "5bb295e67e93ec983ec33e42298df0d4835dcd86cd2654497121e6c6dd844e4e", func := "tapewright/tapewrightlaw01.NatDivs", spec := "natDivs", unfollowed := true, recurses := true, apart := false, narrowed := true }
def NatDivsUptoSaid : Prop := natDivsUptoRow.holds Try.pinned (OpenSpec.upto natDivsSpec)

/-- 'tapewrightlaw01.NatGcds', WHERE WHAT IT READS IS OF BULK AT MOST 1048576: true; the input reads as it did. -/
def natGcdsUptoRow : OpenClaim := { program := "ytpjpgfaidallhaa", sum := "5bb295e67e93ec983ec33e42298df0d4835dcd86cd2654497121e6c6dd844e4e", func := "tapewright/tapewrightlaw01.NatGcds", spec := "natGcds", unfollowed := true, recurses := true, apart := false, narrowed := true }
def NatGcdsUptoSaid : Prop := natGcdsUptoRow.holds Try.pinned (OpenSpec.upto natGcdsSpec)

/-- 'tapewrightlaw01.NatDigits', WHERE WHAT IT READS IS OF BULK AT MOST 1048576: true; the input reads as it did. -/
def natDigitsUptoRow : OpenClaim := { program := "ytpjpgfaidallhaa", sum := "5bb295e67e93ec983ec33e42298df0d4835dcd86cd2654497121e6c6dd844e4e", func := "tapewright/tapewrightlaw01.NatDigits", spec := "natDigits", unfollowed := true, recurses := true, apart := false, narrowed := true }
def NatDigitsUptoSaid : Prop := natDigitsUptoRow.holds Try.pinned (OpenSpec.upto natDigitsSpec)

/-- 'tapewrightlaw01.NatLaws', WHERE WHAT IT READS IS OF BULK AT MOST 1048576: true; the input reads as it did. -/
def natLawsUptoRow : OpenClaim := { program := "ytpjpgfaidallhaa", sum := "5bb295e67e93ec983ec33e42298df0d4835dcd86cd2654497121e6c6dd844e4e", func := "tapewright/tapewrightlaw01.NatLaws", spec := "natLaws", unfollowed := true, recurses := true, apart := false, narrowed := true }
def NatLawsUptoSaid : Prop := natLawsUptoRow.holds Try.pinned (OpenSpec.upto natLawsSpec)

/-- 'tapewrightlaw01.NatOrder', WHERE WHAT IT READS IS OF BULK AT MOST 1048576: true; the input reads as it did. -/
def natOrderUptoRow : OpenClaim := { program := "ytpjpgfaidallhaa", sum := "5bb295e67e93ec983ec33e42298df0d4835dcd86cd2654497121e6c6dd844e4e", func := "tapewright/tapewrightlaw01.NatOrder", spec := "natOrder", unfollowed := true, recurses := true, apart := false, narrowed := true }
def NatOrderUptoSaid : Prop := natOrderUptoRow.holds Try.pinned (OpenSpec.upto natOrderSpec)

/-- 'tapewrightlaw01.NatBack', WHERE WHAT IT READS IS OF BULK AT MOST 1048576: true; the input reads as it did. -/
def natBackUptoRow : OpenClaim := { program := "ytpjpgfaidallhaa", sum := "5bb295e67e93ec983ec33e42298df0d4835dcd86cd2654497121e6c6dd844e4e", func := "tapewright/tapewrightlaw01.NatBack", spec := "natBack", unfollowed := true, recurses := true, apart := false, narrowed := true }
def NatBackUptoSaid : Prop := natBackUptoRow.holds Try.pinned (OpenSpec.upto natBackSpec)

/-- 'tapewrightlaw01.NatSquares', WHERE WHAT IT READS IS OF BULK AT MOST 1048576: true; the input reads as it did. -/
def natSquaresUptoRow : OpenClaim := { program := "ytpjpgfaidallhaa", sum := "5bb295e67e93ec983ec33e42298df0d4835dcd86cd2654497121e6c6dd844e4e", func := "tapewright/tapewrightlaw01.NatSquares", spec := "natSquares", unfollowed := true, recurses := true, apart := false, narrowed := true }
def NatSquaresUptoSaid : Prop := natSquaresUptoRow.holds Try.pinned (OpenSpec.upto natSquaresSpec)

/-- 'tapewrightlaw01.NatSums', WHERE WHAT IT READS IS OF BULK AT MOST 1048576: true; the input reads as it did. -/
def natSumsUptoRow : OpenClaim := { program := "ytpjpgfaidallhaa", sum := "5bb295e67e93ec983ec33e42298df0d4835dcd86cd2654497121e6c6dd844e4e", func := "tapewright/tapewrightlaw01.NatSums", spec := "natSums", unfollowed := true, recurses := true, apart := false, narrowed := true }
def NatSumsUptoSaid : Prop := natSumsUptoRow.holds Try.pinned (OpenSpec.upto natSumsSpec)

/-- 'tapewrightlaw01.NatGrows', WHERE WHAT IT READS IS OF BULK AT MOST 1048576: true; the input reads as it did. -/
def natGrowsUptoRow : OpenClaim := { program := "ytpjpgfaidallhaa", sum := "5bb295e67e93ec983ec33e42298df0d4835dcd86cd2654497121e6c6dd844e4e", func := "tapewright/tapewrightlaw01.NatGrows", spec := "natGrows", unfollowed := true, recurses := true, apart := false, narrowed := true }
def NatGrowsUptoSaid : Prop := natGrowsUptoRow.holds Try.pinned (OpenSpec.upto natGrowsSpec)

/-- 'tapewrightlaw01.NatOnes', WHERE WHAT IT READS IS OF BULK AT MOST 1048576: true; the input reads as it did. -/
def natOnesUptoRow : OpenClaim := { program := "ytpjpgfaidallhaa", sum := "5bb295e67e93ec983ec33e42298df0d4835dcd86cd2654497121e6c6dd844e4e", func := "tapewright/tapewrightlaw01.NatOnes", spec := "natOnes", unfollowed := true, recurses := true, apart := false, narrowed := true }
def NatOnesUptoSaid : Prop := natOnesUptoRow.holds Try.pinned (OpenSpec.upto natOnesSpec)

end Rows
end Go.Proofs.Ytpjpgfaidallhaa

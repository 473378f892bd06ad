/-
  No cell of these rows narrows 'for every input' (looked for: loops, veiled, ifaces, maps, wideKeys, modest, calm, conditions, laid).
  DERIVED. THE GIVEN ROWS OF THIS SEAT. 12 by the template 'for every input the law returns true; each argument reads behind the call as it read before'; 0 by the template 'total and deterministic' (their statements: YtaogmfchpcdboaaTotals.lean).
  GIVEN WITH THE SEED: the statements are not yours to turn. If you find one false, say at which input.
  Laid BY PROGRAM, IN A SANDBOX (cutbox-rows.mjs): the forced cells as the released guide's own fill.sh prints them over the translation a33d1c512e625000… (all of the seat's roots in one cut). By AI agents, Wed Nov 11 2026. No macro, syntax, notation, axiom, sorry.
-/
import Derived.Test.YtaogmfchpcdboaaChecked
import GoSem.Claim
import GoSem.ClaimJoined
import GoSem.ClaimMapViews
import Derived.JoinedTies
import Derived.KernelRfl
namespace Go.Proofs.Ytaogmfchpcdboaa
/- THE CELL 'sum', in the pinned program and in every row, IS THE sha256 OF THE DUMP (.gsa) THAT YtaogmfchpcdboaaProg.lean LOADS. Nothing in Lean hashes anything: it is a label: what it is worth is what the hold of that sum in a sandbox is worth. -/
noncomputable def Try.pinned : Pinned := { name := "ytaogmfchpcdboaa", sum := "a33d1c512e62500005339284a255432d1cbb6c3558529ef00de2ad1598ac7b86", checked := Try.checked }
namespace Rows
def none {H : Type} : Left H := { results := [], args := [] }

/-- 'switchbacklaw08.CodePuts': WHATEVER THE INPUT: true; the input reads as it did. -/
def codePutsSpec : ChangeSpec := { name := "codePuts", fn := fun _ => fun
  | [d] => { results := [.lit (.bool true)], args := [d] }
  | _ => none }
def codePutsRow : OpenClaim := { program := "ytaogmfchpcdboaa", sum := "a33d1c512e62500005339284a255432d1cbb6c3558529ef00de2ad1598ac7b86", func := "switchback/switchbacklaw08.CodePuts", spec := "codePuts", recurses := true, apart := false }
def CodePutsSaid : Prop := codePutsRow.holds Try.pinned (OpenSpec.ofChange codePutsSpec)

/-- ITS FALSE NEIGHBOUR: 'it returns false'. Refute it at one input. -/
def codePutsWrong : ChangeSpec := { name := "codePuts", fn := fun _ => fun
  | [d] => { results := [.lit (.bool false)], args := [d] }
  | _ => none }
def CodePutsWrongFalsely : Prop := codePutsRow.holds Try.pinned (OpenSpec.ofChange codePutsWrong)

/-- 'switchbacklaw08.CodeGets': WHATEVER THE INPUT: true; the input reads as it did. -/
def codeGetsSpec : ChangeSpec := { name := "codeGets", fn := fun _ => fun
  | [d] => { results := [.lit (.bool true)], args := [d] }
  | _ => none }
def codeGetsRow : OpenClaim := { program := "ytaogmfchpcdboaa", sum := "a33d1c512e62500005339284a255432d1cbb6c3558529ef00de2ad1598ac7b86", func := "switchback/switchbacklaw08.CodeGets", spec := "codeGets", apart := false }
def CodeGetsSaid : Prop := codeGetsRow.holds Try.pinned (OpenSpec.ofChange codeGetsSpec)

/-- ITS FALSE NEIGHBOUR: 'it returns false'. Refute it at one input. -/
def codeGetsWrong : ChangeSpec := { name := "codeGets", fn := fun _ => fun
  | [d] => { results := [.lit (.bool false)], args := [d] }
  | _ => none }
def CodeGetsWrongFalsely : Prop := codeGetsRow.holds Try.pinned (OpenSpec.ofChange codeGetsWrong)

/-- 'switchbacklaw08.CodeBack': WHATEVER THE INPUT: true; the input reads as it did. -/
def codeBackSpec : ChangeSpec := { name := "codeBack", fn := fun _ => fun
  | [d] => { results := [.lit (.bool true)], args := [d] }
  | _ => none }
def codeBackRow : OpenClaim := { program := "ytaogmfchpcdboaa", sum := "a33d1c512e62500005339284a255432d1cbb6c3558529ef00de2ad1598ac7b86", func := "switchback/switchbacklaw08.CodeBack", spec := "codeBack", apart := false }
def CodeBackSaid : Prop := codeBackRow.holds Try.pinned (OpenSpec.ofChange codeBackSpec)

/-- ITS FALSE NEIGHBOUR: 'it returns false'. Refute it at one input. -/
def codeBackWrong : ChangeSpec := { name := "codeBack", fn := fun _ => fun
  | [d] => { results := [.lit (.bool false)], args := [d] }
  | _ => none }
def CodeBackWrongFalsely : Prop := codeBackRow.holds Try.pinned (OpenSpec.ofChange codeBackWrong)

/-- 'switchbacklaw08.CodeOne': WHATEVER THE INPUT: true; the input reads as it did. -/
def codeOneSpec : ChangeSpec := { name := "codeOne", fn := fun _ => fun
  | [d] => { results := [.lit (.bool true)], args := [d] }
  | _ => none }
def codeOneRow : OpenClaim := { program := "ytaogmfchpcdboaa", sum := "a33d1c512e62500005339284a255432d1cbb6c3558529ef00de2ad1598ac7b86", func := "switchback/switchbacklaw08.CodeOne", spec := "codeOne", apart := false }
def CodeOneSaid : Prop := codeOneRow.holds Try.pinned (OpenSpec.ofChange codeOneSpec)

/-- ITS FALSE NEIGHBOUR: 'it returns false'. Refute it at one input. -/
def codeOneWrong : ChangeSpec := { name := "codeOne", fn := fun _ => fun
  | [d] => { results := [.lit (.bool false)], args := [d] }
  | _ => none }
def CodeOneWrongFalsely : Prop := codeOneRow.holds Try.pinned (OpenSpec.ofChange codeOneWrong)

/-- 'switchbacklaw08.CodeParts': WHATEVER THE INPUT: true; the input reads as it did. -/
def codePartsSpec : ChangeSpec := { name := "codeParts", fn := fun _ => fun
  | [d1, d2] => { results := [.lit (.bool true)], args := [d1, d2] }
  | _ => none }
def codePartsRow : OpenClaim := { program := "ytaogmfchpcdboaa", sum := "a33d1c512e62500005339284a255432d1cbb6c3558529ef00de2ad1598ac7b86", func := "switchback/switchbacklaw08.CodeParts", spec := "codeParts", apart := false }
def CodePartsSaid : Prop := codePartsRow.holds Try.pinned (OpenSpec.ofChange codePartsSpec)

/-- ITS FALSE NEIGHBOUR: 'it returns false'. Refute it at one input. -/
def codePartsWrong : ChangeSpec := { name := "codeParts", fn := fun _ => fun
  | [d1, d2] => { results := [.lit (.bool false)], args := [d1, d2] }
  | _ => none }
def CodePartsWrongFalsely : Prop := codePartsRow.holds Try.pinned (OpenSpec.ofChange codePartsWrong)

/-- 'switchbacklaw08.CodeSizes': WHATEVER THE INPUT: true; the input reads as it did. -/
def codeSizesSpec : ChangeSpec := { name := "codeSizes", fn := fun _ => fun
  | [d1, d2, d3] => { results := [.lit (.bool true)], args := [d1, d2, d3] }
  | _ => none }
def codeSizesRow : OpenClaim := { program := "ytaogmfchpcdboaa", sum := "a33d1c512e62500005339284a255432d1cbb6c3558529ef00de2ad1598ac7b86", func := "switchback/switchbacklaw08.CodeSizes", spec := "codeSizes", apart := false }
def CodeSizesSaid : Prop := codeSizesRow.holds Try.pinned (OpenSpec.ofChange codeSizesSpec)

/-- ITS FALSE NEIGHBOUR: 'it returns false'. Refute it at one input. -/
def codeSizesWrong : ChangeSpec := { name := "codeSizes", fn := fun _ => fun
  | [d1, d2, d3] => { results := [.lit (.bool false)], args := [d1, d2, d3] }
  | _ => none }
def CodeSizesWrongFalsely : Prop := codeSizesRow.holds Try.pinned (OpenSpec.ofChange codeSizesWrong)

/-- 'switchbacklaw09.IntentPuts': WHATEVER THE INPUT: true; the input reads as it did. -/
def intentPutsSpec : ChangeSpec := { name := "intentPuts", fn := fun _ => fun
  | [d] => { results := [.lit (.bool true)], args := [d] }
  | _ => none }
def intentPutsRow : OpenClaim := { program := "ytaogmfchpcdboaa", sum := "a33d1c512e62500005339284a255432d1cbb6c3558529ef00de2ad1598ac7b86", func := "switchback/switchbacklaw09.IntentPuts", spec := "intentPuts", recurses := true, apart := false }
def IntentPutsSaid : Prop := intentPutsRow.holds Try.pinned (OpenSpec.ofChange intentPutsSpec)

/-- ITS FALSE NEIGHBOUR: 'it returns false'. Refute it at one input. -/
def intentPutsWrong : ChangeSpec := { name := "intentPuts", fn := fun _ => fun
  | [d] => { results := [.lit (.bool false)], args := [d] }
  | _ => none }
def IntentPutsWrongFalsely : Prop := intentPutsRow.holds Try.pinned (OpenSpec.ofChange intentPutsWrong)

/-- 'switchbacklaw09.IntentGets': WHATEVER THE INPUT: true; the input reads as it did. -/
def intentGetsSpec : ChangeSpec := { name := "intentGets", fn := fun _ => fun
  | [d] => { results := [.lit (.bool true)], args := [d] }
  | _ => none }
def intentGetsRow : OpenClaim := { program := "ytaogmfchpcdboaa", sum := "a33d1c512e62500005339284a255432d1cbb6c3558529ef00de2ad1598ac7b86", func := "switchback/switchbacklaw09.IntentGets", spec := "intentGets", apart := false }
def IntentGetsSaid : Prop := intentGetsRow.holds Try.pinned (OpenSpec.ofChange intentGetsSpec)

/-- ITS FALSE NEIGHBOUR: 'it returns false'. Refute it at one input. -/
def intentGetsWrong : ChangeSpec := { name := "intentGets", fn := fun _ => fun
  | [d] => { results := [.lit (.bool false)], args := [d] }
  | _ => none }
def IntentGetsWrongFalsely : Prop := intentGetsRow.holds Try.pinned (OpenSpec.ofChange intentGetsWrong)

/-- 'switchbacklaw09.IntentBack': WHATEVER THE INPUT: true; the input reads as it did. -/
def intentBackSpec : ChangeSpec := { name := "intentBack", fn := fun _ => fun
  | [d] => { results := [.lit (.bool true)], args := [d] }
  | _ => none }
def intentBackRow : OpenClaim := { program := "ytaogmfchpcdboaa", sum := "a33d1c512e62500005339284a255432d1cbb6c3558529ef00de2ad1598ac7b86", func := "switchback/switchbacklaw09.IntentBack", spec := "intentBack", apart := false }
def IntentBackSaid : Prop := intentBackRow.holds Try.pinned (OpenSpec.ofChange intentBackSpec)

/-- ITS FALSE NEIGHBOUR: 'it returns false'. Refute it at one input. -/
def intentBackWrong : ChangeSpec := { name := "intentBack", fn := fun _ => fun
  | [d] => { results := [.lit (.bool false)], args := [d] }
  | _ => none }
def IntentBackWrongFalsely : Prop := intentBackRow.holds Try.pinned (OpenSpec.ofChange intentBackWrong)

/-- 'switchbacklaw09.IntentOne': WHATEVER THE INPUT: true; the input reads as it did. -/
def intentOneSpec : ChangeSpec := { name := "intentOne", fn := fun _ => fun
  | [d] => { results := [.lit (.bool true)], args := [d] }
  | _ => none }
def intentOneRow : OpenClaim := { program := "ytaogmfchpcdboaa", sum := "a33d1c512e62500005339284a255432d1cbb6c3558529ef00de2ad1598ac7b86", func := "switchback/switchbacklaw09.IntentOne", spec := "intentOne", apart := false }
def IntentOneSaid : Prop := intentOneRow.holds Try.pinned (OpenSpec.ofChange intentOneSpec)

/-- ITS FALSE NEIGHBOUR: 'it returns false'. Refute it at one input. -/
def intentOneWrong : ChangeSpec := { name := "intentOne", fn := fun _ => fun
  | [d] => { results := [.lit (.bool false)], args := [d] }
  | _ => none }
def IntentOneWrongFalsely : Prop := intentOneRow.holds Try.pinned (OpenSpec.ofChange intentOneWrong)

/-- 'switchbacklaw09.IntentSizes': WHATEVER THE INPUT: true; the input reads as it did. -/
def intentSizesSpec : ChangeSpec := { name := "intentSizes", fn := fun _ => fun
  | [d1, d2] => { results := [.lit (.bool true)], args := [d1, d2] }
  | _ => none }
def intentSizesRow : OpenClaim := { program := "ytaogmfchpcdboaa", sum := "a33d1c512e62500005339284a255432d1cbb6c3558529ef00de2ad1598ac7b86", func := "switchback/switchbacklaw09.IntentSizes", spec := "intentSizes", apart := false }
def IntentSizesSaid : Prop := intentSizesRow.holds Try.pinned (OpenSpec.ofChange intentSizesSpec)

/-- ITS FALSE NEIGHBOUR: 'it returns false'. Refute it at one input. -/
def intentSizesWrong : ChangeSpec := { name := "intentSizes", fn := fun _ => fun
  | [d1, d2] => { results := [.lit (.bool false)], args := [d1, d2] }
  | _ => none }
def IntentSizesWrongFalsely : Prop := intentSizesRow.holds Try.pinned (OpenSpec.ofChange intentSizesWrong)

/-- 'switchbacklaw09.IntentApart': WHATEVER THE INPUT: true; the input reads as it did. -/
def intentApartSpec : ChangeSpec := { name := "intentApart", fn := fun _ => fun
  | [d1, d2] => { results := [.lit (.bool true)], args := [d1, d2] }
  | _ => none }
def intentApartRow : OpenClaim := { program := "ytaogmfchpcdboaa", sum := "a33d1c512e62500005339284a255432d1cbb6c3558529ef00de2ad1598ac7b86", func := "switchback/switchbacklaw09.IntentApart", spec := "intentApart", apart := false }
def IntentApartSaid : Prop := intentApartRow.holds Try.pinned (OpenSpec.ofChange intentApartSpec)

/-- ITS FALSE NEIGHBOUR: 'it returns false'. Refute it at one input. -/
def intentApartWrong : ChangeSpec := { name := "intentApart", fn := fun _ => fun
  | [d1, d2] => { results := [.lit (.bool false)], args := [d1, d2] }
  | _ => none }
def IntentApartWrongFalsely : Prop := intentApartRow.holds Try.pinned (OpenSpec.ofChange intentApartWrong)

/- THE SECOND FORM. 'bulk': how many values and letters a reading holds, each counted each time it is reached (what is shared counts as often as it is met; a slice's spare places count too). A statement '..UptoSaid' is the law's where the arguments, and the package variables that the reading takes, are together of bulk at most 1048576: NARROWER than '..Said'. Prove '..Said' where nothing that the law and all that it calls make is longer than what came in: it says more and counts as full. Else prove '..UptoSaid'. A law counts once. -/
mutual
def uptoBulk {H : Type} : DataW H → Nat
  | .lit (.string bytes) => bytes.length + 1
  | .lit _ => 1
  | .nil => 1
  | .ptr d => uptoBulk d + 1
  | .slice elems spare => uptoBulkAll elems + uptoBulkAll spare + 1
  | .agg parts => uptoBulkAll parts + 1
  | .iface _ d => uptoBulk d + 1
  | .map entries => uptoBulkEntries entries + 1
  | .held _ => 1
def uptoBulkAll {H : Type} : List (DataW H) → Nat
  | [] => 0
  | d :: r => uptoBulk d + uptoBulkAll r
def uptoBulkEntries {H : Type} : List (Lit × DataW H) → Nat
  | [] => 0
  | x :: r => uptoBulkEntry x + uptoBulkEntries r
def uptoBulkEntry {H : Type} : Lit × DataW H → Nat
  | (.string bytes, d) => bytes.length + uptoBulk d + 1
  | (_, d) => uptoBulk d + 1
 end
def uptoSmall : (H : Type) → List (DataW H) → Bool := fun _ ds => decide (uptoBulkAll ds ≤ 1048576)
def OpenSpec.upto (s : _root_.Go.ChangeSpec) : _root_.Go.OpenSpec := { _root_.Go.OpenSpec.ofChange s with cond := some uptoSmall }

/-- 'switchbacklaw08.CodePuts', WHERE WHAT IT READS IS OF BULK AT MOST 1048576: true; the input reads as it did. -/
def codePutsUptoRow : OpenClaim := { program := "ytaogmfchpcdboaa", sum := "a33d1c512e62500005339284a255432d1cbb6c3558529ef00de2ad1598ac7b86", func := "switchback/switchbacklaw08.CodePuts", spec := "codePuts", recurses := true, apart := false, narrowed := true }
def CodePutsUptoSaid : Prop := codePutsUptoRow.holds Try.pinned (OpenSpec.upto codePutsSpec)

/-- 'switchbacklaw08.CodeGets', WHERE WHAT IT READS IS OF BULK AT MOST 1048576: true; the input reads as it did. -/
def codeGetsUptoRow : OpenClaim := { program := "ytaogmfchpcdboaa", sum := "a33d1c512e62500005339284a255432d1cbb6c3558529ef00de2ad1598ac7b86", func := "switchback/switchbacklaw08.CodeGets", spec := "codeGets", apart := false, narrowed := true }
def CodeGetsUptoSaid : Prop := codeGetsUptoRow.holds Try.pinned (OpenSpec.upto codeGetsSpec)

/-- 'switchbacklaw08.CodeBack', WHERE WHAT IT READS IS OF BULK AT MOST 1048576: true; the input reads as it did. -/
def codeBackUptoRow : OpenClaim := { program := "ytaogmfchpcdboaa", sum := "a33d1c512e62500005339284a255432d1cbb6c3558529ef00de2ad1598ac7b86", func := "switchback/switchbacklaw08.CodeBack", spec := "codeBack", apart := false, narrowed := true }
def CodeBackUptoSaid : Prop := codeBackUptoRow.holds Try.pinned (OpenSpec.upto codeBackSpec)

/-- 'switchbacklaw08.CodeOne', WHERE WHAT IT READS IS OF BULK AT MOST 1048576: true; the input reads as it did. -/
def codeOneUptoRow : OpenClaim := { program := "ytaogmfchpcdboaa", sum := "a33d1c512e62500005339284a255432d1cbb6c3558529ef00de2ad1598ac7b86", func := "switchback/switchbacklaw08.CodeOne", spec := "codeOne", apart := false, narrowed := true }
def CodeOneUptoSaid : Prop := codeOneUptoRow.holds Try.pinned (OpenSpec.upto codeOneSpec)

/-- 'switchbacklaw08.CodeParts', WHERE WHAT IT READS IS OF BULK AT MOST 1048576: true; the input reads as it did. -/
def codePartsUptoRow : OpenClaim := { program := "ytaogmfchpcdboaa", sum := "a33d1c512e62500005339284a255432d1cbb6c3558529ef00de2ad1598ac7b86", func := "switchback/switchbacklaw08.CodeParts", spec := "codeParts", apart := false, narrowed := true }
def CodePartsUptoSaid : Prop := codePartsUptoRow.holds Try.pinned (OpenSpec.upto codePartsSpec)

/-- 'switchbacklaw08.CodeSizes', WHERE WHAT IT READS IS OF BULK AT MOST 1048576: true; the input reads as it did. -/
def codeSizesUptoRow : OpenClaim := { program := "ytaogmfchpcdboaa", sum := "a33d1c512e62500005339284a255432d1cbb6c3558529ef00de2ad1598ac7b86", func := "switchback/switchbacklaw08.CodeSizes", spec := "codeSizes", apart := false, narrowed := true }
def CodeSizesUptoSaid : Prop := codeSizesUptoRow.holds Try.pinned (OpenSpec.upto codeSizesSpec)

/-- 'switchbacklaw09.IntentPuts', WHERE WHAT IT READS IS OF BULK AT MOST 1048576: true; the input reads as it did. -/
def intentPutsUptoRow : OpenClaim := { program := "ytaogmfchpcdboaa", sum := "a33d1c512e62500005339284a255432d1cbb6c3558529ef00de2ad1598ac7b86", func := "switchback/switchbacklaw09.IntentPuts", spec := "intentPuts", recurses := true, apart := false, narrowed := true }
def IntentPutsUptoSaid : Prop := intentPutsUptoRow.holds Try.pinned (OpenSpec.upto intentPutsSpec)

/-- 'switchbacklaw09.IntentGets', WHERE WHAT IT READS IS OF BULK AT MOST 1048576: true; the input reads as it did. -/
def intentGetsUptoRow : OpenClaim := { program := "ytaogmfchpcdboaa", sum := "a33d1c512e62500005339284a255432d1cbb6c3558529ef00de2ad1598ac7b86", func := "switchback/switchbacklaw09.IntentGets", spec := "intentGets", apart := false, narrowed := true }
def IntentGetsUptoSaid : Prop := intentGetsUptoRow.holds Try.pinned (OpenSpec.upto intentGetsSpec)

/-- 'switchbacklaw09.IntentBack', WHERE WHAT IT READS IS OF BULK AT MOST 1048576: true; the input reads as it did. -/
def intentBackUptoRow : OpenClaim := { program := "ytaogmfchpcdboaa", sum := "a33d1c512e62500005339284a255432d1cbb6c3558529ef00de2ad1598ac7b86", func := "switchback/switchbacklaw09.IntentBack", spec := "intentBack", apart := false, narrowed := true }
def IntentBackUptoSaid : Prop := intentBackUptoRow.holds Try.pinned (OpenSpec.upto intentBackSpec)

/-- 'switchbacklaw09.IntentOne', WHERE WHAT IT READS IS OF BULK AT MOST 1048576: true; the input reads as it did. -/
def intentOneUptoRow : OpenClaim := { program := "ytaogmfchpcdboaa", sum := "a33d1c512e62500005339284a255432d1cbb6c3558529ef00de2ad1598ac7b86", func := "switchback/switchbacklaw09.IntentOne", spec := "intentOne", apart := false, narrowed := true }
def IntentOneUptoSaid : Prop := intentOneUptoRow.holds Try.pinned (OpenSpec.upto intentOneSpec)

/-- 'switchbacklaw09.IntentSizes', WHERE WHAT IT READS IS OF BULK AT MOST 1048576: true; the input reads as it did. -/
def intentSizesUptoRow : OpenClaim := { program := "ytaogmfchpcdboaa", sum := "a33d1c512e62500005339284a255432d1cbb6c3558529ef00de2ad1598ac7b86", func := "switchback/switchbacklaw09.IntentSizes", spec := "intentSizes", apart := false, narrowed := true }
def IntentSizesUptoSaid : Prop := intentSizesUptoRow.holds Try.pinned (OpenSpec.upto intentSizesSpec)

/-- 'switchbacklaw09.IntentApart', WHERE WHAT IT READS IS OF BULK AT MOST 1048576: true; the input reads as it did. -/
def intentApartUptoRow : OpenClaim := { program := "ytaogmfchpcdboaa", sum := "a33d1c512e62500005339284a255432d1cbb6c3558529ef00de2ad1598ac7b86", func := "switchback/switchbacklaw09.IntentApart", spec := "intentApart", apart := false, narrowed := true }
def IntentApartUptoSaid : Prop := intentApartUptoRow.holds Try.pinned (OpenSpec.upto intentApartSpec)

end Rows
end Go.Proofs.Ytaogmfchpcdboaa

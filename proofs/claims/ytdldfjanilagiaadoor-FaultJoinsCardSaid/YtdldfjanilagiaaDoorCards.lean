/-
  DERIVED. GIVEN WITH THE SEED: THE CARDS: each row of YtdldfjanilagiaaDoorRows.lean that lists a variable, with what it lists TIED to the program's text (the seventh form; the later family's looks); each row that meets fmt, with fmt's text TOLD by the authors' own Lean function (tested against real Go, not proved from fmt's source: count such statements apart). THE CARD IS WHAT COUNTS. Prove the row's statement (the work); the ties are given (YtdldfjanilagiaaDoorTie.lean); close each card by the builder's one call (the guide's Derived/Test/ToyasCard.lean, 'card_holds'). Laid BY PROGRAM, IN A SANDBOX (cutbox-door.mjs). By AI agents, Wed Nov 11 2026. No macro, syntax, notation, axiom, sorry.
-/
import Derived.Test.YtdldfjanilagiaaDoorRows
import GoSem.ClaimSeven
namespace Go.Proofs.YtdldfjanilagiaaDoor
namespace Rows

/-- THE TIED CARD OF 'switchbacklaw02.FaultFirst'. -/
def faultFirstCard : Claim7 := { stood := { row := faultFirstRow, standIns := [], harness := (true, "776e8ab429d952ad8dcfe17bd3e5d23c9fcc3a96d8e411a0b07d447a88e10848"), looks := true }, kinds := [], alts := [], laidByText := true, laidKinds := [.handle], laidTests := true, laidLooks := .later }
def FaultFirstCardSaid : Prop := Claim7.holds Tryd.pinned (.plain (OpenSpec.ofChange faultFirstSpec)) faultFirstCard

/-- THE TIED CARD OF 'switchbacklaw02.FaultJoins'. -/
def faultJoinsCard : Claim7 := { stood := { row := faultJoinsRow, standIns := [], harness := (true, "776e8ab429d952ad8dcfe17bd3e5d23c9fcc3a96d8e411a0b07d447a88e10848"), looks := true }, kinds := [], alts := [], laidByText := true, laidKinds := [.handle], laidTests := true, laidLooks := .later }
def FaultJoinsCardSaid : Prop := Claim7.holds Tryd.pinned (.plain (OpenSpec.ofChange faultJoinsSpec)) faultJoinsCard

/-- THE TIED CARD OF 'switchbacklaw02.FaultWraps'. -/
def faultWrapsCard : Claim7 := { stood := { row := faultWrapsRow, standIns := [], harness := (true, "776e8ab429d952ad8dcfe17bd3e5d23c9fcc3a96d8e411a0b07d447a88e10848"), looks := true }, kinds := [], alts := [], laidByText := true, laidKinds := [.handle], laidTests := true, laidLooks := .later }
def FaultWrapsCardSaid : Prop := Claim7.holds Tryd.pinned (.plain (OpenSpec.ofChange faultWrapsSpec)) faultWrapsCard

/-- THE TIED CARD OF 'switchbacklaw02.FaultWords'. -/
def faultWordsCard : Claim7 := { stood := { row := faultWordsRow, standIns := [], harness := (true, "776e8ab429d952ad8dcfe17bd3e5d23c9fcc3a96d8e411a0b07d447a88e10848"), looks := true }, kinds := [], alts := [], laidByText := true, laidKinds := [.handle], laidTests := true, laidLooks := .later }
def FaultWordsCardSaid : Prop := Claim7.holds Tryd.pinned (.plain (OpenSpec.ofChange faultWordsSpec)) faultWordsCard

/-- THE TIED CARD OF 'switchbacklaw02.FaultDeep'. -/
def faultDeepCard : Claim7 := { stood := { row := faultDeepRow, standIns := [], harness := (true, "776e8ab429d952ad8dcfe17bd3e5d23c9fcc3a96d8e411a0b07d447a88e10848"), looks := true }, kinds := [], alts := [], laidByText := true, laidKinds := [.handle], laidTests := true, laidLooks := .later }
def FaultDeepCardSaid : Prop := Claim7.holds Tryd.pinned (.plain (OpenSpec.ofChange faultDeepSpec)) faultDeepCard

/-- THE SECOND FORM's CARD OF 'switchbacklaw02.FaultFirst'. -/
def faultFirstUptoCard : Claim7 := { stood := { row := faultFirstUptoRow, standIns := [], harness := (true, "776e8ab429d952ad8dcfe17bd3e5d23c9fcc3a96d8e411a0b07d447a88e10848"), looks := true }, kinds := [], alts := [], laidByText := true, laidKinds := [.handle], laidTests := true, laidLooks := .later }
def FaultFirstUptoCardSaid : Prop := Claim7.holds Tryd.pinned (.plain (OpenSpec.upto faultFirstSpec)) faultFirstUptoCard

/-- THE SECOND FORM's CARD OF 'switchbacklaw02.FaultJoins'. -/
def faultJoinsUptoCard : Claim7 := { stood := { row := faultJoinsUptoRow, standIns := [], harness := (true, "776e8ab429d952ad8dcfe17bd3e5d23c9fcc3a96d8e411a0b07d447a88e10848"), looks := true }, kinds := [], alts := [], laidByText := true, laidKinds := [.handle], laidTests := true, laidLooks := .later }
def FaultJoinsUptoCardSaid : Prop := Claim7.holds Tryd.pinned (.plain (OpenSpec.upto faultJoinsSpec)) faultJoinsUptoCard

/-- THE SECOND FORM's CARD OF 'switchbacklaw02.FaultWraps'. -/
def faultWrapsUptoCard : Claim7 := { stood := { row := faultWrapsUptoRow, standIns := [], harness := (true, "776e8ab429d952ad8dcfe17bd3e5d23c9fcc3a96d8e411a0b07d447a88e10848"), looks := true }, kinds := [], alts := [], laidByText := true, laidKinds := [.handle], laidTests := true, laidLooks := .later }
def FaultWrapsUptoCardSaid : Prop := Claim7.holds Tryd.pinned (.plain (OpenSpec.upto faultWrapsSpec)) faultWrapsUptoCard

/-- THE SECOND FORM's CARD OF 'switchbacklaw02.FaultWords'. -/
def faultWordsUptoCard : Claim7 := { stood := { row := faultWordsUptoRow, standIns := [], harness := (true, "776e8ab429d952ad8dcfe17bd3e5d23c9fcc3a96d8e411a0b07d447a88e10848"), looks := true }, kinds := [], alts := [], laidByText := true, laidKinds := [.handle], laidTests := true, laidLooks := .later }
def FaultWordsUptoCardSaid : Prop := Claim7.holds Tryd.pinned (.plain (OpenSpec.upto faultWordsSpec)) faultWordsUptoCard

/-- THE SECOND FORM's CARD OF 'switchbacklaw02.FaultDeep'. -/
def faultDeepUptoCard : Claim7 := { stood := { row := faultDeepUptoRow, standIns := [], harness := (true, "776e8ab429d952ad8dcfe17bd3e5d23c9fcc3a96d8e411a0b07d447a88e10848"), looks := true }, kinds := [], alts := [], laidByText := true, laidKinds := [.handle], laidTests := true, laidLooks := .later }
def FaultDeepUptoCardSaid : Prop := Claim7.holds Tryd.pinned (.plain (OpenSpec.upto faultDeepSpec)) faultDeepUptoCard
end Rows
end Go.Proofs.YtdldfjanilagiaaDoor

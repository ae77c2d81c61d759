/-
  DERIVED. GIVEN WITH THE SEED: THE CARDS: each row of YtchmfiiipdjikaaDoorRows.lean that lists a variable, with what it lists TIED to the program's text (the seventh form; the later family's looks); each row that meets fmt, with fmt's text TOLD by the authors' own Lean function (tested against real Go, not proved from fmt's source: count such statements apart). THE CARD IS WHAT COUNTS. Prove the row's statement (the work); the ties are given (YtchmfiiipdjikaaDoorTie.lean); close each card by the builder's one call (the guide's Derived/Test/ToyasCard.lean, 'card_holds'). Laid BY PROGRAM, IN A SANDBOX (cutbox-door.mjs). By AI agents, Wed Nov 11 2026. No macro, syntax, notation, axiom, sorry.
-/
import Derived.Test.YtchmfiiipdjikaaDoorRows
import GoSem.ClaimSeven
namespace Go.Proofs.YtchmfiiipdjikaaDoor
namespace Rows

/-- THE TIED CARD OF 'substationlaw03.CycloRing'. -/
def cycloRingCard : Claim7 := { stood := { row := cycloRingRow, standIns := [], harness := (true, "77a93c77c39dc2a5b22e64f766bdefbacac5078b9446b1a40e4c3353cc15cd23"), looks := false }, kinds := [], alts := [], laidByText := true, laidKinds := [.data], laidTests := true, laidLooks := .later }
def CycloRingCardSaid : Prop := Claim7.holds Tryd.pinned (.plain (OpenSpec.ofChange cycloRingSpec)) cycloRingCard

/-- THE TIED CARD OF 'substationlaw03.CycloProducts'. -/
def cycloProductsCard : Claim7 := { stood := { row := cycloProductsRow, standIns := [], harness := (true, "77a93c77c39dc2a5b22e64f766bdefbacac5078b9446b1a40e4c3353cc15cd23"), looks := false }, kinds := [], alts := [], laidByText := true, laidKinds := [.data], laidTests := true, laidLooks := .later }
def CycloProductsCardSaid : Prop := Claim7.holds Tryd.pinned (.plain (OpenSpec.ofChange cycloProductsSpec)) cycloProductsCard

/-- THE TIED CARD OF 'substationlaw03.CycloRotations'. -/
def cycloRotationsCard : Claim7 := { stood := { row := cycloRotationsRow, standIns := [], harness := (true, "77a93c77c39dc2a5b22e64f766bdefbacac5078b9446b1a40e4c3353cc15cd23"), looks := false }, kinds := [], alts := [], laidByText := true, laidKinds := [.data], laidTests := true, laidLooks := .later }
def CycloRotationsCardSaid : Prop := Claim7.holds Tryd.pinned (.plain (OpenSpec.ofChange cycloRotationsSpec)) cycloRotationsCard

/-- THE TIED CARD OF 'substationlaw03.CycloParts'. -/
def cycloPartsCard : Claim7 := { stood := { row := cycloPartsRow, standIns := [], harness := (true, "77a93c77c39dc2a5b22e64f766bdefbacac5078b9446b1a40e4c3353cc15cd23"), looks := false }, kinds := [], alts := [], laidByText := true, laidKinds := [.data], laidTests := true, laidLooks := .later }
def CycloPartsCardSaid : Prop := Claim7.holds Tryd.pinned (.plain (OpenSpec.ofChange cycloPartsSpec)) cycloPartsCard

/-- THE TIED CARD OF 'substationlaw03.CycloBalanced'. -/
def cycloBalancedCard : Claim7 := { stood := { row := cycloBalancedRow, standIns := [], harness := (true, "77a93c77c39dc2a5b22e64f766bdefbacac5078b9446b1a40e4c3353cc15cd23"), looks := false }, kinds := [], alts := [], laidByText := true, laidKinds := [.data], laidTests := true, laidLooks := .later }
def CycloBalancedCardSaid : Prop := Claim7.holds Tryd.pinned (.plain (OpenSpec.ofChange cycloBalancedSpec)) cycloBalancedCard

/-- THE TIED CARD OF 'substationlaw03.CycloConjugates'. -/
def cycloConjugatesCard : Claim7 := { stood := { row := cycloConjugatesRow, standIns := [], harness := (true, "77a93c77c39dc2a5b22e64f766bdefbacac5078b9446b1a40e4c3353cc15cd23"), looks := false }, kinds := [], alts := [], laidByText := true, laidKinds := [.data], laidTests := true, laidLooks := .later }
def CycloConjugatesCardSaid : Prop := Claim7.holds Tryd.pinned (.plain (OpenSpec.ofChange cycloConjugatesSpec)) cycloConjugatesCard

/-- THE TIED CARD OF 'substationlaw03.CycloParallelogram'. -/
def cycloParallelogramCard : Claim7 := { stood := { row := cycloParallelogramRow, standIns := [], harness := (true, "77a93c77c39dc2a5b22e64f766bdefbacac5078b9446b1a40e4c3353cc15cd23"), looks := false }, kinds := [], alts := [], laidByText := true, laidKinds := [.data], laidTests := true, laidLooks := .later }
def CycloParallelogramCardSaid : Prop := Claim7.holds Tryd.pinned (.plain (OpenSpec.ofChange cycloParallelogramSpec)) cycloParallelogramCard

/-- THE TIED CARD OF 'substationlaw03.CycloSums'. -/
def cycloSumsCard : Claim7 := { stood := { row := cycloSumsRow, standIns := [], harness := (true, "77a93c77c39dc2a5b22e64f766bdefbacac5078b9446b1a40e4c3353cc15cd23"), looks := false }, kinds := [], alts := [], laidByText := true, laidKinds := [.data], laidTests := true, laidLooks := .later }
def CycloSumsCardSaid : Prop := Claim7.holds Tryd.pinned (.plain (OpenSpec.ofChange cycloSumsSpec)) cycloSumsCard

/-- THE TIED CARD OF 'substationlaw03.CycloNorms'. -/
def cycloNormsCard : Claim7 := { stood := { row := cycloNormsRow, standIns := [], harness := (true, "77a93c77c39dc2a5b22e64f766bdefbacac5078b9446b1a40e4c3353cc15cd23"), looks := false }, kinds := [], alts := [], laidByText := true, laidKinds := [.data, .data], laidTests := true, laidLooks := .later }
def CycloNormsCardSaid : Prop := Claim7.holds Tryd.pinned (.plain (OpenSpec.ofChange cycloNormsSpec)) cycloNormsCard

/-- THE TIED CARD OF 'substationlaw21.SequenceBalanced'. -/
def sequenceBalancedCard : Claim7 := { stood := { row := sequenceBalancedRow, standIns := [], harness := (true, "77a93c77c39dc2a5b22e64f766bdefbacac5078b9446b1a40e4c3353cc15cd23"), looks := false }, kinds := [], alts := [], laidByText := true, laidKinds := [.data], laidTests := true, laidLooks := .later }
def SequenceBalancedCardSaid : Prop := Claim7.holds Tryd.pinned (.plain (OpenSpec.ofChange sequenceBalancedSpec)) sequenceBalancedCard

/-- THE TIED CARD OF 'substationlaw21.SequenceTurns'. -/
def sequenceTurnsCard : Claim7 := { stood := { row := sequenceTurnsRow, standIns := [], harness := (true, "77a93c77c39dc2a5b22e64f766bdefbacac5078b9446b1a40e4c3353cc15cd23"), looks := false }, kinds := [], alts := [], laidByText := true, laidKinds := [.data], laidTests := true, laidLooks := .later }
def SequenceTurnsCardSaid : Prop := Claim7.holds Tryd.pinned (.plain (OpenSpec.ofChange sequenceTurnsSpec)) sequenceTurnsCard

/-- THE TIED CARD OF 'substationlaw21.SequenceInverse'. -/
def sequenceInverseCard : Claim7 := { stood := { row := sequenceInverseRow, standIns := [], harness := (true, "77a93c77c39dc2a5b22e64f766bdefbacac5078b9446b1a40e4c3353cc15cd23"), looks := false }, kinds := [], alts := [], laidByText := true, laidKinds := [.data], laidTests := true, laidLooks := .later }
def SequenceInverseCardSaid : Prop := Claim7.holds Tryd.pinned (.plain (OpenSpec.ofChange sequenceInverseSpec)) sequenceInverseCard

/-- THE TIED CARD OF 'substationlaw21.SequencePower'. -/
def sequencePowerCard : Claim7 := { stood := { row := sequencePowerRow, standIns := [], harness := (true, "77a93c77c39dc2a5b22e64f766bdefbacac5078b9446b1a40e4c3353cc15cd23"), looks := false }, kinds := [], alts := [], laidByText := true, laidKinds := [.data], laidTests := true, laidLooks := .later }
def SequencePowerCardSaid : Prop := Claim7.holds Tryd.pinned (.plain (OpenSpec.ofChange sequencePowerSpec)) sequencePowerCard

/-- THE SECOND FORM's CARD OF 'substationlaw03.CycloRing'. -/
def cycloRingUptoCard : Claim7 := { stood := { row := cycloRingUptoRow, standIns := [], harness := (true, "77a93c77c39dc2a5b22e64f766bdefbacac5078b9446b1a40e4c3353cc15cd23"), looks := false }, kinds := [], alts := [], laidByText := true, laidKinds := [.data], laidTests := true, laidLooks := .later }
def CycloRingUptoCardSaid : Prop := Claim7.holds Tryd.pinned (.plain (OpenSpec.upto cycloRingSpec)) cycloRingUptoCard

/-- THE SECOND FORM's CARD OF 'substationlaw03.CycloProducts'. -/
def cycloProductsUptoCard : Claim7 := { stood := { row := cycloProductsUptoRow, standIns := [], harness := (true, "77a93c77c39dc2a5b22e64f766bdefbacac5078b9446b1a40e4c3353cc15cd23"), looks := false }, kinds := [], alts := [], laidByText := true, laidKinds := [.data], laidTests := true, laidLooks := .later }
def CycloProductsUptoCardSaid : Prop := Claim7.holds Tryd.pinned (.plain (OpenSpec.upto cycloProductsSpec)) cycloProductsUptoCard

/-- THE SECOND FORM's CARD OF 'substationlaw03.CycloRotations'. -/
def cycloRotationsUptoCard : Claim7 := { stood := { row := cycloRotationsUptoRow, standIns := [], harness := (true, "77a93c77c39dc2a5b22e64f766bdefbacac5078b9446b1a40e4c3353cc15cd23"), looks := false }, kinds := [], alts := [], laidByText := true, laidKinds := [.data], laidTests := true, laidLooks := .later }
def CycloRotationsUptoCardSaid : Prop := Claim7.holds Tryd.pinned (.plain (OpenSpec.upto cycloRotationsSpec)) cycloRotationsUptoCard

/-- THE SECOND FORM's CARD OF 'substationlaw03.CycloParts'. -/
def cycloPartsUptoCard : Claim7 := { stood := { row := cycloPartsUptoRow, standIns := [], harness := (true, "77a93c77c39dc2a5b22e64f766bdefbacac5078b9446b1a40e4c3353cc15cd23"), looks := false }, kinds := [], alts := [], laidByText := true, laidKinds := [.data], laidTests := true, laidLooks := .later }
def CycloPartsUptoCardSaid : Prop := Claim7.holds Tryd.pinned (.plain (OpenSpec.upto cycloPartsSpec)) cycloPartsUptoCard

/-- THE SECOND FORM's CARD OF 'substationlaw03.CycloBalanced'. -/
def cycloBalancedUptoCard : Claim7 := { stood := { row := cycloBalancedUptoRow, standIns := [], harness := (true, "77a93c77c39dc2a5b22e64f766bdefbacac5078b9446b1a40e4c3353cc15cd23"), looks := false }, kinds := [], alts := [], laidByText := true, laidKinds := [.data], laidTests := true, laidLooks := .later }
def CycloBalancedUptoCardSaid : Prop := Claim7.holds Tryd.pinned (.plain (OpenSpec.upto cycloBalancedSpec)) cycloBalancedUptoCard

/-- THE SECOND FORM's CARD OF 'substationlaw03.CycloConjugates'. -/
def cycloConjugatesUptoCard : Claim7 := { stood := { row := cycloConjugatesUptoRow, standIns := [], harness := (true, "77a93c77c39dc2a5b22e64f766bdefbacac5078b9446b1a40e4c3353cc15cd23"), looks := false }, kinds := [], alts := [], laidByText := true, laidKinds := [.data], laidTests := true, laidLooks := .later }
def CycloConjugatesUptoCardSaid : Prop := Claim7.holds Tryd.pinned (.plain (OpenSpec.upto cycloConjugatesSpec)) cycloConjugatesUptoCard

/-- THE SECOND FORM's CARD OF 'substationlaw03.CycloParallelogram'. -/
def cycloParallelogramUptoCard : Claim7 := { stood := { row := cycloParallelogramUptoRow, standIns := [], harness := (true, "77a93c77c39dc2a5b22e64f766bdefbacac5078b9446b1a40e4c3353cc15cd23"), looks := false }, kinds := [], alts := [], laidByText := true, laidKinds := [.data], laidTests := true, laidLooks := .later }
def CycloParallelogramUptoCardSaid : Prop := Claim7.holds Tryd.pinned (.plain (OpenSpec.upto cycloParallelogramSpec)) cycloParallelogramUptoCard

/-- THE SECOND FORM's CARD OF 'substationlaw03.CycloSums'. -/
def cycloSumsUptoCard : Claim7 := { stood := { row := cycloSumsUptoRow, standIns := [], harness := (true, "77a93c77c39dc2a5b22e64f766bdefbacac5078b9446b1a40e4c3353cc15cd23"), looks := false }, kinds := [], alts := [], laidByText := true, laidKinds := [.data], laidTests := true, laidLooks := .later }
def CycloSumsUptoCardSaid : Prop := Claim7.holds Tryd.pinned (.plain (OpenSpec.upto cycloSumsSpec)) cycloSumsUptoCard

/-- THE SECOND FORM's CARD OF 'substationlaw03.CycloNorms'. -/
def cycloNormsUptoCard : Claim7 := { stood := { row := cycloNormsUptoRow, standIns := [], harness := (true, "77a93c77c39dc2a5b22e64f766bdefbacac5078b9446b1a40e4c3353cc15cd23"), looks := false }, kinds := [], alts := [], laidByText := true, laidKinds := [.data, .data], laidTests := true, laidLooks := .later }
def CycloNormsUptoCardSaid : Prop := Claim7.holds Tryd.pinned (.plain (OpenSpec.upto cycloNormsSpec)) cycloNormsUptoCard

/-- THE SECOND FORM's CARD OF 'substationlaw21.SequenceBalanced'. -/
def sequenceBalancedUptoCard : Claim7 := { stood := { row := sequenceBalancedUptoRow, standIns := [], harness := (true, "77a93c77c39dc2a5b22e64f766bdefbacac5078b9446b1a40e4c3353cc15cd23"), looks := false }, kinds := [], alts := [], laidByText := true, laidKinds := [.data], laidTests := true, laidLooks := .later }
def SequenceBalancedUptoCardSaid : Prop := Claim7.holds Tryd.pinned (.plain (OpenSpec.upto sequenceBalancedSpec)) sequenceBalancedUptoCard

/-- THE SECOND FORM's CARD OF 'substationlaw21.SequenceTurns'. -/
def sequenceTurnsUptoCard : Claim7 := { stood := { row := sequenceTurnsUptoRow, standIns := [], harness := (true, "77a93c77c39dc2a5b22e64f766bdefbacac5078b9446b1a40e4c3353cc15cd23"), looks := false }, kinds := [], alts := [], laidByText := true, laidKinds := [.data], laidTests := true, laidLooks := .later }
def SequenceTurnsUptoCardSaid : Prop := Claim7.holds Tryd.pinned (.plain (OpenSpec.upto sequenceTurnsSpec)) sequenceTurnsUptoCard

/-- THE SECOND FORM's CARD OF 'substationlaw21.SequenceInverse'. -/
def sequenceInverseUptoCard : Claim7 := { stood := { row := sequenceInverseUptoRow, standIns := [], harness := (true, "77a93c77c39dc2a5b22e64f766bdefbacac5078b9446b1a40e4c3353cc15cd23"), looks := false }, kinds := [], alts := [], laidByText := true, laidKinds := [.data], laidTests := true, laidLooks := .later }
def SequenceInverseUptoCardSaid : Prop := Claim7.holds Tryd.pinned (.plain (OpenSpec.upto sequenceInverseSpec)) sequenceInverseUptoCard

/-- THE SECOND FORM's CARD OF 'substationlaw21.SequencePower'. -/
def sequencePowerUptoCard : Claim7 := { stood := { row := sequencePowerUptoRow, standIns := [], harness := (true, "77a93c77c39dc2a5b22e64f766bdefbacac5078b9446b1a40e4c3353cc15cd23"), looks := false }, kinds := [], alts := [], laidByText := true, laidKinds := [.data], laidTests := true, laidLooks := .later }
def SequencePowerUptoCardSaid : Prop := Claim7.holds Tryd.pinned (.plain (OpenSpec.upto sequencePowerSpec)) sequencePowerUptoCard
end Rows
end Go.Proofs.YtchmfiiipdjikaaDoor

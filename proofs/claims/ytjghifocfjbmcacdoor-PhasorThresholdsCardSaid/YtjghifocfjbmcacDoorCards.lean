/-
  DERIVED. GIVEN WITH THE SEED: THE CARDS: each row of YtjghifocfjbmcacDoorRows.lean that lists a variable, with what it lists TIED to the program's text (the seventh form; the later family's looks); each row that meets fmt, with fmt's text TOLD by the authors' own Lean function (tested against real Go, not proved from fmt's source: count such statements apart). THE CARD IS WHAT COUNTS. Prove the row's statement (the work); the ties are given (YtjghifocfjbmcacDoorTie.lean); close each card by the builder's one call (the guide's Derived/Test/ToyasCard.lean, 'card_holds'). Laid BY PROGRAM, IN A SANDBOX (cutbox-door.mjs). By AI agents, Wed Nov 11 2026. No macro, syntax, notation, axiom, sorry.
-/
import Derived.Test.YtjghifocfjbmcacDoorRows
import GoSem.ClaimSeven
namespace Go.Proofs.YtjghifocfjbmcacDoor
namespace Rows

/-- THE TIED CARD OF 'substationlaw02.SurdOrder'. -/
def surdOrderCard : Claim7 := { stood := { row := surdOrderRow, standIns := [], harness := (true, "711b1200e5685ec2a5b5c28b5ee6305e9b1de020e6c3c2f710bea3c555bf7854"), looks := false }, kinds := [], alts := [], laidByText := true, laidKinds := [.data], laidTests := true, laidLooks := .later }
def SurdOrderCardSaid : Prop := Claim7.holds Tryd.pinned (.plain (OpenSpec.ofChange surdOrderSpec)) surdOrderCard

/-- THE TIED CARD OF 'substationlaw02.SurdVersus'. -/
def surdVersusCard : Claim7 := { stood := { row := surdVersusRow, standIns := [], harness := (true, "711b1200e5685ec2a5b5c28b5ee6305e9b1de020e6c3c2f710bea3c555bf7854"), looks := false }, kinds := [], alts := [], laidByText := true, laidKinds := [.data], laidTests := true, laidLooks := .later }
def SurdVersusCardSaid : Prop := Claim7.holds Tryd.pinned (.plain (OpenSpec.ofChange surdVersusSpec)) surdVersusCard

/-- THE TIED CARD OF 'substationlaw20.PhasorThresholds'. -/
def phasorThresholdsCard : Claim7 := { stood := { row := phasorThresholdsRow, standIns := [], harness := (true, "711b1200e5685ec2a5b5c28b5ee6305e9b1de020e6c3c2f710bea3c555bf7854"), looks := false }, kinds := [], alts := [], laidByText := true, laidKinds := [.data, .data], laidTests := true, laidLooks := .later }
def PhasorThresholdsCardSaid : Prop := Claim7.holds Tryd.pinned (.plain (OpenSpec.ofChange phasorThresholdsSpec)) phasorThresholdsCard

/-- THE TIED CARD OF 'substationlaw20.PhasorSizes'. -/
def phasorSizesCard : Claim7 := { stood := { row := phasorSizesRow, standIns := [], harness := (true, "711b1200e5685ec2a5b5c28b5ee6305e9b1de020e6c3c2f710bea3c555bf7854"), looks := false }, kinds := [], alts := [], laidByText := true, laidKinds := [.data, .data], laidTests := true, laidLooks := .later }
def PhasorSizesCardSaid : Prop := Claim7.holds Tryd.pinned (.plain (OpenSpec.ofChange phasorSizesSpec)) phasorSizesCard

/-- THE SECOND FORM's CARD OF 'substationlaw02.SurdOrder'. -/
def surdOrderUptoCard : Claim7 := { stood := { row := surdOrderUptoRow, standIns := [], harness := (true, "711b1200e5685ec2a5b5c28b5ee6305e9b1de020e6c3c2f710bea3c555bf7854"), looks := false }, kinds := [], alts := [], laidByText := true, laidKinds := [.data], laidTests := true, laidLooks := .later }
def SurdOrderUptoCardSaid : Prop := Claim7.holds Tryd.pinned (.plain (OpenSpec.upto surdOrderSpec)) surdOrderUptoCard

/-- THE SECOND FORM's CARD OF 'substationlaw02.SurdVersus'. -/
def surdVersusUptoCard : Claim7 := { stood := { row := surdVersusUptoRow, standIns := [], harness := (true, "711b1200e5685ec2a5b5c28b5ee6305e9b1de020e6c3c2f710bea3c555bf7854"), looks := false }, kinds := [], alts := [], laidByText := true, laidKinds := [.data], laidTests := true, laidLooks := .later }
def SurdVersusUptoCardSaid : Prop := Claim7.holds Tryd.pinned (.plain (OpenSpec.upto surdVersusSpec)) surdVersusUptoCard

/-- THE SECOND FORM's CARD OF 'substationlaw20.PhasorThresholds'. -/
def phasorThresholdsUptoCard : Claim7 := { stood := { row := phasorThresholdsUptoRow, standIns := [], harness := (true, "711b1200e5685ec2a5b5c28b5ee6305e9b1de020e6c3c2f710bea3c555bf7854"), looks := false }, kinds := [], alts := [], laidByText := true, laidKinds := [.data, .data], laidTests := true, laidLooks := .later }
def PhasorThresholdsUptoCardSaid : Prop := Claim7.holds Tryd.pinned (.plain (OpenSpec.upto phasorThresholdsSpec)) phasorThresholdsUptoCard

/-- THE SECOND FORM's CARD OF 'substationlaw20.PhasorSizes'. -/
def phasorSizesUptoCard : Claim7 := { stood := { row := phasorSizesUptoRow, standIns := [], harness := (true, "711b1200e5685ec2a5b5c28b5ee6305e9b1de020e6c3c2f710bea3c555bf7854"), looks := false }, kinds := [], alts := [], laidByText := true, laidKinds := [.data, .data], laidTests := true, laidLooks := .later }
def PhasorSizesUptoCardSaid : Prop := Claim7.holds Tryd.pinned (.plain (OpenSpec.upto phasorSizesSpec)) phasorSizesUptoCard
end Rows
end Go.Proofs.YtjghifocfjbmcacDoor

/-
  DERIVED. GIVEN WITH THE SEED: THE CARDS: each row of YtjghifocfjbmcaaDoorRows.lean that lists a variable, with what it lists TIED to the program's text (the seventh form; the later family's looks); each row that meets fmt, with fmt's text TOLD by the authors' own Lean function (tested against real Go, not proved from fmt's source: count such statements apart). THE CARD IS WHAT COUNTS. Prove the row's statement (the work); the ties are given (YtjghifocfjbmcaaDoorTie.lean); close each card by the builder's one call (the guide's Derived/Test/ToyasCard.lean, 'card_holds'). Laid BY PROGRAM, IN A SANDBOX (cutbox-door.mjs). By AI agents, Wed Nov 11 2026. No macro, syntax, notation, axiom, sorry.
-/
import Derived.Test.YtjghifocfjbmcaaDoorRows
import GoSem.ClaimSeven
namespace Go.Proofs.YtjghifocfjbmcaaDoor
namespace Rows

/-- THE TIED CARD OF 'substationlaw20.PhasorHalves'. -/
def phasorHalvesCard : Claim7 := { stood := { row := phasorHalvesRow, standIns := [], harness := (true, "6a380e805b1c7d568ac3e4cdf44bfbc5aefd4091de917495ef757b1c70711dff"), looks := false }, kinds := [], alts := [], laidByText := true, laidKinds := [.data], laidTests := true, laidLooks := .later }
def PhasorHalvesCardSaid : Prop := Claim7.holds Tryd.pinned (.plain (OpenSpec.ofChange phasorHalvesSpec)) phasorHalvesCard

/-- THE TIED CARD OF 'substationlaw20.PhasorTransforms'. -/
def phasorTransformsCard : Claim7 := { stood := { row := phasorTransformsRow, standIns := [], harness := (true, "6a380e805b1c7d568ac3e4cdf44bfbc5aefd4091de917495ef757b1c70711dff"), looks := false }, kinds := [], alts := [], laidByText := true, laidKinds := [.data], laidTests := true, laidLooks := .later }
def PhasorTransformsCardSaid : Prop := Claim7.holds Tryd.pinned (.plain (OpenSpec.ofChange phasorTransformsSpec)) phasorTransformsCard

/-- THE TIED CARD OF 'substationlaw20.PhasorDelay'. -/
def phasorDelayCard : Claim7 := { stood := { row := phasorDelayRow, standIns := [], harness := (true, "6a380e805b1c7d568ac3e4cdf44bfbc5aefd4091de917495ef757b1c70711dff"), looks := false }, kinds := [], alts := [], laidByText := true, laidKinds := [.data], laidTests := true, laidLooks := .later }
def PhasorDelayCardSaid : Prop := Claim7.holds Tryd.pinned (.plain (OpenSpec.ofChange phasorDelaySpec)) phasorDelayCard

/-- THE TIED CARD OF 'substationlaw20.PhasorLinear'. -/
def phasorLinearCard : Claim7 := { stood := { row := phasorLinearRow, standIns := [], harness := (true, "6a380e805b1c7d568ac3e4cdf44bfbc5aefd4091de917495ef757b1c70711dff"), looks := false }, kinds := [], alts := [], laidByText := true, laidKinds := [.data], laidTests := true, laidLooks := .later }
def PhasorLinearCardSaid : Prop := Claim7.holds Tryd.pinned (.plain (OpenSpec.ofChange phasorLinearSpec)) phasorLinearCard

/-- THE TIED CARD OF 'substationlaw20.PhasorBacks'. -/
def phasorBacksCard : Claim7 := { stood := { row := phasorBacksRow, standIns := [], harness := (true, "6a380e805b1c7d568ac3e4cdf44bfbc5aefd4091de917495ef757b1c70711dff"), looks := false }, kinds := [], alts := [], laidByText := true, laidKinds := [.data], laidTests := true, laidLooks := .later }
def PhasorBacksCardSaid : Prop := Claim7.holds Tryd.pinned (.plain (OpenSpec.ofChange phasorBacksSpec)) phasorBacksCard

/-- THE TIED CARD OF 'substationlaw20.PhasorParseval'. -/
def phasorParsevalCard : Claim7 := { stood := { row := phasorParsevalRow, standIns := [], harness := (true, "6a380e805b1c7d568ac3e4cdf44bfbc5aefd4091de917495ef757b1c70711dff"), looks := false }, kinds := [], alts := [], laidByText := true, laidKinds := [.data], laidTests := true, laidLooks := .later }
def PhasorParsevalCardSaid : Prop := Claim7.holds Tryd.pinned (.plain (OpenSpec.ofChange phasorParsevalSpec)) phasorParsevalCard

/-- THE TIED CARD OF 'substationlaw20.PhasorInverse'. -/
def phasorInverseCard : Claim7 := { stood := { row := phasorInverseRow, standIns := [], harness := (true, "6a380e805b1c7d568ac3e4cdf44bfbc5aefd4091de917495ef757b1c70711dff"), looks := false }, kinds := [], alts := [], laidByText := true, laidKinds := [.data], laidTests := true, laidLooks := .later }
def PhasorInverseCardSaid : Prop := Claim7.holds Tryd.pinned (.plain (OpenSpec.ofChange phasorInverseSpec)) phasorInverseCard

/-- THE SECOND FORM's CARD OF 'substationlaw20.PhasorHalves'. -/
def phasorHalvesUptoCard : Claim7 := { stood := { row := phasorHalvesUptoRow, standIns := [], harness := (true, "6a380e805b1c7d568ac3e4cdf44bfbc5aefd4091de917495ef757b1c70711dff"), looks := false }, kinds := [], alts := [], laidByText := true, laidKinds := [.data], laidTests := true, laidLooks := .later }
def PhasorHalvesUptoCardSaid : Prop := Claim7.holds Tryd.pinned (.plain (OpenSpec.upto phasorHalvesSpec)) phasorHalvesUptoCard

/-- THE SECOND FORM's CARD OF 'substationlaw20.PhasorTransforms'. -/
def phasorTransformsUptoCard : Claim7 := { stood := { row := phasorTransformsUptoRow, standIns := [], harness := (true, "6a380e805b1c7d568ac3e4cdf44bfbc5aefd4091de917495ef757b1c70711dff"), looks := false }, kinds := [], alts := [], laidByText := true, laidKinds := [.data], laidTests := true, laidLooks := .later }
def PhasorTransformsUptoCardSaid : Prop := Claim7.holds Tryd.pinned (.plain (OpenSpec.upto phasorTransformsSpec)) phasorTransformsUptoCard

/-- THE SECOND FORM's CARD OF 'substationlaw20.PhasorDelay'. -/
def phasorDelayUptoCard : Claim7 := { stood := { row := phasorDelayUptoRow, standIns := [], harness := (true, "6a380e805b1c7d568ac3e4cdf44bfbc5aefd4091de917495ef757b1c70711dff"), looks := false }, kinds := [], alts := [], laidByText := true, laidKinds := [.data], laidTests := true, laidLooks := .later }
def PhasorDelayUptoCardSaid : Prop := Claim7.holds Tryd.pinned (.plain (OpenSpec.upto phasorDelaySpec)) phasorDelayUptoCard

/-- THE SECOND FORM's CARD OF 'substationlaw20.PhasorLinear'. -/
def phasorLinearUptoCard : Claim7 := { stood := { row := phasorLinearUptoRow, standIns := [], harness := (true, "6a380e805b1c7d568ac3e4cdf44bfbc5aefd4091de917495ef757b1c70711dff"), looks := false }, kinds := [], alts := [], laidByText := true, laidKinds := [.data], laidTests := true, laidLooks := .later }
def PhasorLinearUptoCardSaid : Prop := Claim7.holds Tryd.pinned (.plain (OpenSpec.upto phasorLinearSpec)) phasorLinearUptoCard

/-- THE SECOND FORM's CARD OF 'substationlaw20.PhasorBacks'. -/
def phasorBacksUptoCard : Claim7 := { stood := { row := phasorBacksUptoRow, standIns := [], harness := (true, "6a380e805b1c7d568ac3e4cdf44bfbc5aefd4091de917495ef757b1c70711dff"), looks := false }, kinds := [], alts := [], laidByText := true, laidKinds := [.data], laidTests := true, laidLooks := .later }
def PhasorBacksUptoCardSaid : Prop := Claim7.holds Tryd.pinned (.plain (OpenSpec.upto phasorBacksSpec)) phasorBacksUptoCard

/-- THE SECOND FORM's CARD OF 'substationlaw20.PhasorParseval'. -/
def phasorParsevalUptoCard : Claim7 := { stood := { row := phasorParsevalUptoRow, standIns := [], harness := (true, "6a380e805b1c7d568ac3e4cdf44bfbc5aefd4091de917495ef757b1c70711dff"), looks := false }, kinds := [], alts := [], laidByText := true, laidKinds := [.data], laidTests := true, laidLooks := .later }
def PhasorParsevalUptoCardSaid : Prop := Claim7.holds Tryd.pinned (.plain (OpenSpec.upto phasorParsevalSpec)) phasorParsevalUptoCard

/-- THE SECOND FORM's CARD OF 'substationlaw20.PhasorInverse'. -/
def phasorInverseUptoCard : Claim7 := { stood := { row := phasorInverseUptoRow, standIns := [], harness := (true, "6a380e805b1c7d568ac3e4cdf44bfbc5aefd4091de917495ef757b1c70711dff"), looks := false }, kinds := [], alts := [], laidByText := true, laidKinds := [.data], laidTests := true, laidLooks := .later }
def PhasorInverseUptoCardSaid : Prop := Claim7.holds Tryd.pinned (.plain (OpenSpec.upto phasorInverseSpec)) phasorInverseUptoCard
end Rows
end Go.Proofs.YtjghifocfjbmcaaDoor

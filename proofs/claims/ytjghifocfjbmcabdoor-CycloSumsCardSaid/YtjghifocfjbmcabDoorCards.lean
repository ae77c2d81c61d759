/-
  DERIVED. GIVEN WITH THE SEED: THE CARDS: each row of YtjghifocfjbmcabDoorRows.lean that lists a variable, with what it lists TIED to the program's text (the seventh form; the later family's looks); each row that meets fmt, with fmt's text TOLD by the authors' own Lean function (tested against real Go, not proved from fmt's source: count such statements apart). THE CARD IS WHAT COUNTS. Prove the row's statement (the work); the ties are given (YtjghifocfjbmcabDoorTie.lean); close each card by the builder's one call (the guide's Derived/Test/ToyasCard.lean, 'card_holds'). Laid BY PROGRAM, IN A SANDBOX (cutbox-door.mjs). By AI agents, Wed Nov 11 2026. No macro, syntax, notation, axiom, sorry.
-/
import Derived.Test.YtjghifocfjbmcabDoorRows
import GoSem.ClaimSeven
namespace Go.Proofs.YtjghifocfjbmcabDoor
namespace Rows

/-- THE TIED CARD OF 'substationlaw02.SurdSigns'. -/
def surdSignsCard : Claim7 := { stood := { row := surdSignsRow, standIns := [], harness := (true, "217c9a1525f4ddf3af1fa383a1b46bd7e407405eef8e20ecc8febc2b84114677"), looks := false }, kinds := [], alts := [], laidByText := true, laidKinds := [.data], laidTests := true, laidLooks := .later }
def SurdSignsCardSaid : Prop := Claim7.holds Tryd.pinned (.plain (OpenSpec.ofChange surdSignsSpec)) surdSignsCard

/-- THE TIED CARD OF 'substationlaw02.SurdProducts'. -/
def surdProductsCard : Claim7 := { stood := { row := surdProductsRow, standIns := [], harness := (true, "217c9a1525f4ddf3af1fa383a1b46bd7e407405eef8e20ecc8febc2b84114677"), looks := false }, kinds := [], alts := [], laidByText := true, laidKinds := [.data], laidTests := true, laidLooks := .later }
def SurdProductsCardSaid : Prop := Claim7.holds Tryd.pinned (.plain (OpenSpec.ofChange surdProductsSpec)) surdProductsCard

/-- THE TIED CARD OF 'substationlaw02.SurdTotal'. -/
def surdTotalCard : Claim7 := { stood := { row := surdTotalRow, standIns := [], harness := (true, "217c9a1525f4ddf3af1fa383a1b46bd7e407405eef8e20ecc8febc2b84114677"), looks := false }, kinds := [], alts := [], laidByText := true, laidKinds := [.data], laidTests := true, laidLooks := .later }
def SurdTotalCardSaid : Prop := Claim7.holds Tryd.pinned (.plain (OpenSpec.ofChange surdTotalSpec)) surdTotalCard

/-- THE TIED CARD OF 'substationlaw02.SurdMultiplicative'. -/
def surdMultiplicativeCard : Claim7 := { stood := { row := surdMultiplicativeRow, standIns := [], harness := (true, "217c9a1525f4ddf3af1fa383a1b46bd7e407405eef8e20ecc8febc2b84114677"), looks := false }, kinds := [], alts := [], laidByText := true, laidKinds := [.data], laidTests := true, laidLooks := .later }
def SurdMultiplicativeCardSaid : Prop := Claim7.holds Tryd.pinned (.plain (OpenSpec.ofChange surdMultiplicativeSpec)) surdMultiplicativeCard

/-- THE TIED CARD OF 'substationlaw02.SurdSums'. -/
def surdSumsCard : Claim7 := { stood := { row := surdSumsRow, standIns := [], harness := (true, "217c9a1525f4ddf3af1fa383a1b46bd7e407405eef8e20ecc8febc2b84114677"), looks := false }, kinds := [], alts := [], laidByText := true, laidKinds := [.data], laidTests := true, laidLooks := .later }
def SurdSumsCardSaid : Prop := Claim7.holds Tryd.pinned (.plain (OpenSpec.ofChange surdSumsSpec)) surdSumsCard

/-- THE TIED CARD OF 'substationlaw03.CycloSums'. -/
def cycloSumsCard : Claim7 := { stood := { row := cycloSumsRow, standIns := [], harness := (true, "217c9a1525f4ddf3af1fa383a1b46bd7e407405eef8e20ecc8febc2b84114677"), looks := false }, kinds := [], alts := [], laidByText := true, laidKinds := [.data], laidTests := true, laidLooks := .later }
def CycloSumsCardSaid : Prop := Claim7.holds Tryd.pinned (.plain (OpenSpec.ofChange cycloSumsSpec)) cycloSumsCard

/-- THE TIED CARD OF 'substationlaw03.CycloNorms'. -/
def cycloNormsCard : Claim7 := { stood := { row := cycloNormsRow, standIns := [], harness := (true, "217c9a1525f4ddf3af1fa383a1b46bd7e407405eef8e20ecc8febc2b84114677"), looks := false }, kinds := [], alts := [], laidByText := true, laidKinds := [.data, .data], laidTests := true, laidLooks := .later }
def CycloNormsCardSaid : Prop := Claim7.holds Tryd.pinned (.plain (OpenSpec.ofChange cycloNormsSpec)) cycloNormsCard

/-- THE SECOND FORM's CARD OF 'substationlaw02.SurdSigns'. -/
def surdSignsUptoCard : Claim7 := { stood := { row := surdSignsUptoRow, standIns := [], harness := (true, "217c9a1525f4ddf3af1fa383a1b46bd7e407405eef8e20ecc8febc2b84114677"), looks := false }, kinds := [], alts := [], laidByText := true, laidKinds := [.data], laidTests := true, laidLooks := .later }
def SurdSignsUptoCardSaid : Prop := Claim7.holds Tryd.pinned (.plain (OpenSpec.upto surdSignsSpec)) surdSignsUptoCard

/-- THE SECOND FORM's CARD OF 'substationlaw02.SurdProducts'. -/
def surdProductsUptoCard : Claim7 := { stood := { row := surdProductsUptoRow, standIns := [], harness := (true, "217c9a1525f4ddf3af1fa383a1b46bd7e407405eef8e20ecc8febc2b84114677"), looks := false }, kinds := [], alts := [], laidByText := true, laidKinds := [.data], laidTests := true, laidLooks := .later }
def SurdProductsUptoCardSaid : Prop := Claim7.holds Tryd.pinned (.plain (OpenSpec.upto surdProductsSpec)) surdProductsUptoCard

/-- THE SECOND FORM's CARD OF 'substationlaw02.SurdTotal'. -/
def surdTotalUptoCard : Claim7 := { stood := { row := surdTotalUptoRow, standIns := [], harness := (true, "217c9a1525f4ddf3af1fa383a1b46bd7e407405eef8e20ecc8febc2b84114677"), looks := false }, kinds := [], alts := [], laidByText := true, laidKinds := [.data], laidTests := true, laidLooks := .later }
def SurdTotalUptoCardSaid : Prop := Claim7.holds Tryd.pinned (.plain (OpenSpec.upto surdTotalSpec)) surdTotalUptoCard

/-- THE SECOND FORM's CARD OF 'substationlaw02.SurdMultiplicative'. -/
def surdMultiplicativeUptoCard : Claim7 := { stood := { row := surdMultiplicativeUptoRow, standIns := [], harness := (true, "217c9a1525f4ddf3af1fa383a1b46bd7e407405eef8e20ecc8febc2b84114677"), looks := false }, kinds := [], alts := [], laidByText := true, laidKinds := [.data], laidTests := true, laidLooks := .later }
def SurdMultiplicativeUptoCardSaid : Prop := Claim7.holds Tryd.pinned (.plain (OpenSpec.upto surdMultiplicativeSpec)) surdMultiplicativeUptoCard

/-- THE SECOND FORM's CARD OF 'substationlaw02.SurdSums'. -/
def surdSumsUptoCard : Claim7 := { stood := { row := surdSumsUptoRow, standIns := [], harness := (true, "217c9a1525f4ddf3af1fa383a1b46bd7e407405eef8e20ecc8febc2b84114677"), looks := false }, kinds := [], alts := [], laidByText := true, laidKinds := [.data], laidTests := true, laidLooks := .later }
def SurdSumsUptoCardSaid : Prop := Claim7.holds Tryd.pinned (.plain (OpenSpec.upto surdSumsSpec)) surdSumsUptoCard

/-- THE SECOND FORM's CARD OF 'substationlaw03.CycloSums'. -/
def cycloSumsUptoCard : Claim7 := { stood := { row := cycloSumsUptoRow, standIns := [], harness := (true, "217c9a1525f4ddf3af1fa383a1b46bd7e407405eef8e20ecc8febc2b84114677"), looks := false }, kinds := [], alts := [], laidByText := true, laidKinds := [.data], laidTests := true, laidLooks := .later }
def CycloSumsUptoCardSaid : Prop := Claim7.holds Tryd.pinned (.plain (OpenSpec.upto cycloSumsSpec)) cycloSumsUptoCard

/-- THE SECOND FORM's CARD OF 'substationlaw03.CycloNorms'. -/
def cycloNormsUptoCard : Claim7 := { stood := { row := cycloNormsUptoRow, standIns := [], harness := (true, "217c9a1525f4ddf3af1fa383a1b46bd7e407405eef8e20ecc8febc2b84114677"), looks := false }, kinds := [], alts := [], laidByText := true, laidKinds := [.data, .data], laidTests := true, laidLooks := .later }
def CycloNormsUptoCardSaid : Prop := Claim7.holds Tryd.pinned (.plain (OpenSpec.upto cycloNormsSpec)) cycloNormsUptoCard
end Rows
end Go.Proofs.YtjghifocfjbmcabDoor

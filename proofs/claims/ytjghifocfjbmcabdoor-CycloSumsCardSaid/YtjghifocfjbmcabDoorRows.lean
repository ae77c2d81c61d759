/-
  NARROWER THAN 'FOR EVERY INPUT', by the rows' own cells (each row's printed sentence says how): SurdSigns: laid · SurdProducts: laid · SurdTotal: laid · SurdMultiplicative: laid · SurdSums: laid · CycloSums: laid · CycloNorms: laid.
  DERIVED. THE GIVEN ROWS OF THIS SEAT. 7 by the template 'for every input the law returns true; each argument reads behind the call as it read before'; 0 by the template 'total and deterministic' (their statements: YtjghifocfjbmcabDoorTotals.lean).
  GIVEN WITH THE SEED: the statements are not yours to turn. If you find one false, say at which input.
  Laid BY PROGRAM, IN A SANDBOX (cutbox-rows.mjs): the forced cells as the released guide's own fill.sh prints them over the translation b5f91e64ae260839… (all of the seat's roots in one cut). By AI agents, Wed Nov 11 2026. No macro, syntax, notation, axiom, sorry.
-/
import Derived.Test.YtjghifocfjbmcabDoorChecked
import GoSem.Claim
import GoSem.ClaimJoined
import GoSem.ClaimMapViews
import Derived.JoinedTies
import Derived.KernelRfl
namespace Go.Proofs.YtjghifocfjbmcabDoor
/- THE CELL 'sum', in the pinned program and in every row, IS THE sha256 OF THE DUMP (.gsa) THAT YtjghifocfjbmcabDoorProg.lean LOADS. Nothing in Lean hashes anything: it is a label: what it is worth is what the hold of that sum in a sandbox is worth. -/
noncomputable def Tryd.pinned : Pinned := { name := "ytjghifocfjbmcabdoor", sum := "b5f91e64ae260839723b7be694946a163319603dd762c5b74b2f1ffcbb61b605", checked := Tryd.checked }
namespace Rows
def none {H : Type} : Left H := { results := [], args := [] }

/- WHAT THE LISTED PACKAGE-LEVEL VARIABLES READ AS WHEN THE CALL BEGINS. Each datum BY PROGRAM (the guide's laid-datum.mjs) off the statement by which the dump's own 'gosem.cut.vars' lays the variable. In a bare row this is a premise. The card (YtjghifocfjbmcabDoorCards.lean) ties it to the program's text. -/
def laid_substation_surd_signs {H : Type} : DataW H := .agg [.lit (.int .i64 (-1)), .lit (.int .i64 (-1)), .lit (.int .i64 2), .lit (.int .i64 (-1)), .lit (.int .i64 0), .lit (.int .i64 1), .lit (.int .i64 2), .lit (.int .i64 1), .lit (.int .i64 1)]
def laid_substation_cyclo_powers {H : Type} : DataW H := .agg [.agg [.lit (.int .i64 1), .lit (.int .i64 0), .lit (.int .i64 0), .lit (.int .i64 0)], .agg [.lit (.int .i64 0), .lit (.int .i64 1), .lit (.int .i64 0), .lit (.int .i64 0)], .agg [.lit (.int .i64 0), .lit (.int .i64 0), .lit (.int .i64 1), .lit (.int .i64 0)], .agg [.lit (.int .i64 0), .lit (.int .i64 0), .lit (.int .i64 0), .lit (.int .i64 1)], .agg [.lit (.int .i64 (-1)), .lit (.int .i64 0), .lit (.int .i64 1), .lit (.int .i64 0)], .agg [.lit (.int .i64 0), .lit (.int .i64 (-1)), .lit (.int .i64 0), .lit (.int .i64 1)]]

/-- 'substationlaw02.SurdSigns': WHATEVER THE INPUT: true; the input reads as it did. -/
def surdSignsSpec : ChangeSpec := { name := "surdSigns", fn := fun _ => fun
  | [d] => { results := [.lit (.bool true)], args := [d] }
  | _ => none }
def surdSignsRow : OpenClaim := { program := "ytjghifocfjbmcabdoor", sum := "b5f91e64ae260839723b7be694946a163319603dd762c5b74b2f1ffcbb61b605", func := "substation/substationlaw02.SurdSigns", spec := "surdSigns", named := ["substation/surd.signs"], apart := false, laid := [("substation/surd.signs", laid_substation_surd_signs)] }
def SurdSignsSaid : Prop := surdSignsRow.holds Tryd.pinned (OpenSpec.ofChange surdSignsSpec)

/-- ITS FALSE NEIGHBOUR: 'it returns false'. Refute it at one input. -/
def surdSignsWrong : ChangeSpec := { name := "surdSigns", fn := fun _ => fun
  | [d] => { results := [.lit (.bool false)], args := [d] }
  | _ => none }
def SurdSignsWrongFalsely : Prop := surdSignsRow.holds Tryd.pinned (OpenSpec.ofChange surdSignsWrong)

/-- 'substationlaw02.SurdProducts': WHATEVER THE INPUT: true; the input reads as it did. -/
def surdProductsSpec : ChangeSpec := { name := "surdProducts", fn := fun _ => fun
  | [d1, d2] => { results := [.lit (.bool true)], args := [d1, d2] }
  | _ => none }
def surdProductsRow : OpenClaim := { program := "ytjghifocfjbmcabdoor", sum := "b5f91e64ae260839723b7be694946a163319603dd762c5b74b2f1ffcbb61b605", func := "substation/substationlaw02.SurdProducts", spec := "surdProducts", named := ["substation/surd.signs"], apart := false, laid := [("substation/surd.signs", laid_substation_surd_signs)] }
def SurdProductsSaid : Prop := surdProductsRow.holds Tryd.pinned (OpenSpec.ofChange surdProductsSpec)

/-- ITS FALSE NEIGHBOUR: 'it returns false'. Refute it at one input. -/
def surdProductsWrong : ChangeSpec := { name := "surdProducts", fn := fun _ => fun
  | [d1, d2] => { results := [.lit (.bool false)], args := [d1, d2] }
  | _ => none }
def SurdProductsWrongFalsely : Prop := surdProductsRow.holds Tryd.pinned (OpenSpec.ofChange surdProductsWrong)

/-- 'substationlaw02.SurdTotal': WHATEVER THE INPUT: true; the input reads as it did. -/
def surdTotalSpec : ChangeSpec := { name := "surdTotal", fn := fun _ => fun
  | [d1, d2, d3] => { results := [.lit (.bool true)], args := [d1, d2, d3] }
  | _ => none }
def surdTotalRow : OpenClaim := { program := "ytjghifocfjbmcabdoor", sum := "b5f91e64ae260839723b7be694946a163319603dd762c5b74b2f1ffcbb61b605", func := "substation/substationlaw02.SurdTotal", spec := "surdTotal", named := ["substation/surd.signs"], apart := false, laid := [("substation/surd.signs", laid_substation_surd_signs)] }
def SurdTotalSaid : Prop := surdTotalRow.holds Tryd.pinned (OpenSpec.ofChange surdTotalSpec)

/-- ITS FALSE NEIGHBOUR: 'it returns false'. Refute it at one input. -/
def surdTotalWrong : ChangeSpec := { name := "surdTotal", fn := fun _ => fun
  | [d1, d2, d3] => { results := [.lit (.bool false)], args := [d1, d2, d3] }
  | _ => none }
def SurdTotalWrongFalsely : Prop := surdTotalRow.holds Tryd.pinned (OpenSpec.ofChange surdTotalWrong)

/-- 'substationlaw02.SurdMultiplicative': WHATEVER THE INPUT: true; the input reads as it did. -/
def surdMultiplicativeSpec : ChangeSpec := { name := "surdMultiplicative", fn := fun _ => fun
  | [d1, d2] => { results := [.lit (.bool true)], args := [d1, d2] }
  | _ => none }
def surdMultiplicativeRow : OpenClaim := { program := "ytjghifocfjbmcabdoor", sum := "b5f91e64ae260839723b7be694946a163319603dd762c5b74b2f1ffcbb61b605", func := "substation/substationlaw02.SurdMultiplicative", spec := "surdMultiplicative", named := ["substation/surd.signs"], apart := false, laid := [("substation/surd.signs", laid_substation_surd_signs)] }
def SurdMultiplicativeSaid : Prop := surdMultiplicativeRow.holds Tryd.pinned (OpenSpec.ofChange surdMultiplicativeSpec)

/-- ITS FALSE NEIGHBOUR: 'it returns false'. Refute it at one input. -/
def surdMultiplicativeWrong : ChangeSpec := { name := "surdMultiplicative", fn := fun _ => fun
  | [d1, d2] => { results := [.lit (.bool false)], args := [d1, d2] }
  | _ => none }
def SurdMultiplicativeWrongFalsely : Prop := surdMultiplicativeRow.holds Tryd.pinned (OpenSpec.ofChange surdMultiplicativeWrong)

/-- 'substationlaw02.SurdSums': WHATEVER THE INPUT: true; the input reads as it did. -/
def surdSumsSpec : ChangeSpec := { name := "surdSums", fn := fun _ => fun
  | [d1, d2, d3] => { results := [.lit (.bool true)], args := [d1, d2, d3] }
  | _ => none }
def surdSumsRow : OpenClaim := { program := "ytjghifocfjbmcabdoor", sum := "b5f91e64ae260839723b7be694946a163319603dd762c5b74b2f1ffcbb61b605", func := "substation/substationlaw02.SurdSums", spec := "surdSums", named := ["substation/surd.signs"], apart := false, laid := [("substation/surd.signs", laid_substation_surd_signs)] }
def SurdSumsSaid : Prop := surdSumsRow.holds Tryd.pinned (OpenSpec.ofChange surdSumsSpec)

/-- ITS FALSE NEIGHBOUR: 'it returns false'. Refute it at one input. -/
def surdSumsWrong : ChangeSpec := { name := "surdSums", fn := fun _ => fun
  | [d1, d2, d3] => { results := [.lit (.bool false)], args := [d1, d2, d3] }
  | _ => none }
def SurdSumsWrongFalsely : Prop := surdSumsRow.holds Tryd.pinned (OpenSpec.ofChange surdSumsWrong)

/-- 'substationlaw03.CycloSums': WHATEVER THE INPUT: true; the input reads as it did. -/
def cycloSumsSpec : ChangeSpec := { name := "cycloSums", fn := fun _ => fun
  | [d1, d2, d3] => { results := [.lit (.bool true)], args := [d1, d2, d3] }
  | _ => none }
def cycloSumsRow : OpenClaim := { program := "ytjghifocfjbmcabdoor", sum := "b5f91e64ae260839723b7be694946a163319603dd762c5b74b2f1ffcbb61b605", func := "substation/substationlaw03.CycloSums", spec := "cycloSums", unfollowed := true, recurses := true, named := ["substation/cyclo.powers"], apart := false, laid := [("substation/cyclo.powers", laid_substation_cyclo_powers)] }
def CycloSumsSaid : Prop := cycloSumsRow.holds Tryd.pinned (OpenSpec.ofChange cycloSumsSpec)

/-- ITS FALSE NEIGHBOUR: 'it returns false'. Refute it at one input. -/
def cycloSumsWrong : ChangeSpec := { name := "cycloSums", fn := fun _ => fun
  | [d1, d2, d3] => { results := [.lit (.bool false)], args := [d1, d2, d3] }
  | _ => none }
def CycloSumsWrongFalsely : Prop := cycloSumsRow.holds Tryd.pinned (OpenSpec.ofChange cycloSumsWrong)

/-- 'substationlaw03.CycloNorms': WHATEVER THE INPUT: true; the input reads as it did. -/
def cycloNormsSpec : ChangeSpec := { name := "cycloNorms", fn := fun _ => fun
  | [d1, d2, d3] => { results := [.lit (.bool true)], args := [d1, d2, d3] }
  | _ => none }
def cycloNormsRow : OpenClaim := { program := "ytjghifocfjbmcabdoor", sum := "b5f91e64ae260839723b7be694946a163319603dd762c5b74b2f1ffcbb61b605", func := "substation/substationlaw03.CycloNorms", spec := "cycloNorms", unfollowed := true, recurses := true, named := ["substation/cyclo.powers", "substation/surd.signs"], apart := false, laid := [("substation/cyclo.powers", laid_substation_cyclo_powers), ("substation/surd.signs", laid_substation_surd_signs)] }
def CycloNormsSaid : Prop := cycloNormsRow.holds Tryd.pinned (OpenSpec.ofChange cycloNormsSpec)

/-- ITS FALSE NEIGHBOUR: 'it returns false'. Refute it at one input. -/
def cycloNormsWrong : ChangeSpec := { name := "cycloNorms", fn := fun _ => fun
  | [d1, d2, d3] => { results := [.lit (.bool false)], args := [d1, d2, d3] }
  | _ => none }
def CycloNormsWrongFalsely : Prop := cycloNormsRow.holds Tryd.pinned (OpenSpec.ofChange cycloNormsWrong)

/- THE SECOND FORM. 'bulk': how many values and letters a reading holds, each counted each time it is reached (what is shared counts as often as it is met; a slice's spare places count too). A statement '..UptoSaid' is the law's where the arguments, and the package variables that the reading takes, are together of bulk at most 1048576: NARROWER than '..Said'. Prove '..Said' where nothing that the law and all that it calls make is longer than what came in: it says more and counts as full. Else prove '..UptoSaid'. A law counts once. -/
mutual
def uptoBulk {H : Type} : DataW H → Nat
  | .lit (.string bytes) => bytes.length + 1
  | .lit _ => 1
  | .nil => 1
  | .ptr d => uptoBulk d + 1
  | .slice elems spare => uptoBulkAll elems + uptoBulkAll spare + 1
  | .agg parts => uptoBulkAll parts + 1
  | .iface _ d => uptoBulk d + 1
  | .map entries => uptoBulkEntries entries + 1
  | .held _ => 1
def uptoBulkAll {H : Type} : List (DataW H) → Nat
  | [] => 0
  | d :: r => uptoBulk d + uptoBulkAll r
def uptoBulkEntries {H : Type} : List (Lit × DataW H) → Nat
  | [] => 0
  | x :: r => uptoBulkEntry x + uptoBulkEntries r
def uptoBulkEntry {H : Type} : Lit × DataW H → Nat
  | (.string bytes, d) => bytes.length + uptoBulk d + 1
  | (_, d) => uptoBulk d + 1
 end
def uptoSmall : (H : Type) → List (DataW H) → Bool := fun _ ds => decide (uptoBulkAll ds ≤ 1048576)
def OpenSpec.upto (s : _root_.Go.ChangeSpec) : _root_.Go.OpenSpec := { _root_.Go.OpenSpec.ofChange s with cond := some uptoSmall }

/-- 'substationlaw02.SurdSigns', WHERE WHAT IT READS IS OF BULK AT MOST 1048576: true; the input reads as it did. -/
def surdSignsUptoRow : OpenClaim := { program := "ytjghifocfjbmcabdoor", sum := "b5f91e64ae260839723b7be694946a163319603dd762c5b74b2f1ffcbb61b605", func := "substation/substationlaw02.SurdSigns", spec := "surdSigns", named := ["substation/surd.signs"], apart := false, laid := [("substation/surd.signs", laid_substation_surd_signs)], narrowed := true }
def SurdSignsUptoSaid : Prop := surdSignsUptoRow.holds Tryd.pinned (OpenSpec.upto surdSignsSpec)

/-- 'substationlaw02.SurdProducts', WHERE WHAT IT READS IS OF BULK AT MOST 1048576: true; the input reads as it did. -/
def surdProductsUptoRow : OpenClaim := { program := "ytjghifocfjbmcabdoor", sum := "b5f91e64ae260839723b7be694946a163319603dd762c5b74b2f1ffcbb61b605", func := "substation/substationlaw02.SurdProducts", spec := "surdProducts", named := ["substation/surd.signs"], apart := false, laid := [("substation/surd.signs", laid_substation_surd_signs)], narrowed := true }
def SurdProductsUptoSaid : Prop := surdProductsUptoRow.holds Tryd.pinned (OpenSpec.upto surdProductsSpec)

/-- 'substationlaw02.SurdTotal', WHERE WHAT IT READS IS OF BULK AT MOST 1048576: true; the input reads as it did. -/
def surdTotalUptoRow : OpenClaim := { program := "ytjghifocfjbmcabdoor", sum := "b5f91e64ae260839723b7be694946a163319603dd762c5b74b2f1ffcbb61b605", func := "substation/substationlaw02.SurdTotal", spec := "surdTotal", named := ["substation/surd.signs"], apart := false, laid := [("substation/surd.signs", laid_substation_surd_signs)], narrowed := true }
def SurdTotalUptoSaid : Prop := surdTotalUptoRow.holds Tryd.pinned (OpenSpec.upto surdTotalSpec)

/-- 'substationlaw02.SurdMultiplicative', WHERE WHAT IT READS IS OF BULK AT MOST 1048576: true; the input reads as it did. -/
def surdMultiplicativeUptoRow : OpenClaim := { program := "ytjghifocfjbmcabdoor", sum := "b5f91e64ae260839723b7be694946a163319603dd762c5b74b2f1ffcbb61b605", func := "substation/substationlaw02.SurdMultiplicative", spec := "surdMultiplicative", named := ["substation/surd.signs"], apart := false, laid := [("substation/surd.signs", laid_substation_surd_signs)], narrowed := true }
def SurdMultiplicativeUptoSaid : Prop := surdMultiplicativeUptoRow.holds Tryd.pinned (OpenSpec.upto surdMultiplicativeSpec)

/-- 'substationlaw02.SurdSums', WHERE WHAT IT READS IS OF BULK AT MOST 1048576: true; the input reads as it did. -/
def surdSumsUptoRow : OpenClaim := { program := "ytjghifocfjbmcabdoor", sum := "b5f91e64ae260839723b7be694946a163319603dd762c5b74b2f1ffcbb61b605", func := "substation/substationlaw02.SurdSums", spec := "surdSums", named := ["substation/surd.signs"], apart := false, laid := [("substation/surd.signs", laid_substation_surd_signs)], narrowed := true }
def SurdSumsUptoSaid : Prop := surdSumsUptoRow.holds Tryd.pinned (OpenSpec.upto surdSumsSpec)

/-- 'substationlaw03.CycloSums', WHERE WHAT IT READS IS OF BULK AT MOST 1048576: true; the input reads as it did. -/
def cycloSumsUptoRow : OpenClaim := { program := "ytjghifocfjbmcabdoor", sum := "b5f91e64ae260839723b7be694946a163319603dd762c5b74b2f1ffcbb61b605", func := "substation/substationlaw03.CycloSums", spec := "cycloSums", unfollowed := true, recurses := true, named := ["substation/cyclo.powers"], apart := false, laid := [("substation/cyclo.powers", laid_substation_cyclo_powers)], narrowed := true }
def CycloSumsUptoSaid : Prop := cycloSumsUptoRow.holds Tryd.pinned (OpenSpec.upto cycloSumsSpec)

/-- 'substationlaw03.CycloNorms', WHERE WHAT IT READS IS OF BULK AT MOST 1048576: true; the input reads as it did. -/
def cycloNormsUptoRow : OpenClaim := { program := "ytjghifocfjbmcabdoor", sum := "b5f91e64ae260839723b7be694946a163319603dd762c5b74b2f1ffcbb61b605", func := "substation/substationlaw03.CycloNorms", spec := "cycloNorms", unfollowed := true, recurses := true, named := ["substation/cyclo.powers", "substation/surd.signs"], apart := false, laid := [("substation/cyclo.powers", laid_substation_cyclo_powers), ("substation/surd.signs", laid_substation_surd_signs)], narrowed := true }
def CycloNormsUptoSaid : Prop := cycloNormsUptoRow.holds Tryd.pinned (OpenSpec.upto cycloNormsSpec)

end Rows
end Go.Proofs.YtjghifocfjbmcabDoor

/-
  NARROWER THAN 'FOR EVERY INPUT', by the rows' own cells (each row's printed sentence says how): SurdOrder: laid · SurdVersus: laid · PhasorThresholds: laid · PhasorSizes: laid.
  DERIVED. THE GIVEN ROWS OF THIS SEAT. 4 by the template 'for every input the law returns true; each argument reads behind the call as it read before'; 0 by the template 'total and deterministic' (their statements: YtjghifocfjbmcacDoorTotals.lean).
  GIVEN WITH THE SEED: the statements are not yours to turn. If you find one false, say at which input.
  Laid BY PROGRAM, IN A SANDBOX (cutbox-rows.mjs): the forced cells as the released guide's own fill.sh prints them over the translation 886da03ff01d9389… (all of the seat's roots in one cut). By AI agents, Wed Nov 11 2026. No macro, syntax, notation, axiom, sorry.
-/
import Derived.Test.YtjghifocfjbmcacDoorChecked
import GoSem.Claim
import GoSem.ClaimJoined
import GoSem.ClaimMapViews
import Derived.JoinedTies
import Derived.KernelRfl
namespace Go.Proofs.YtjghifocfjbmcacDoor
/- THE CELL 'sum', in the pinned program and in every row, IS THE sha256 OF THE DUMP (.gsa) THAT YtjghifocfjbmcacDoorProg.lean LOADS. Nothing in Lean hashes anything: it is a label: what it is worth is what the hold of that sum in a sandbox is worth. -/
noncomputable def Tryd.pinned : Pinned := { name := "ytjghifocfjbmcacdoor", sum := "886da03ff01d938930209eacbb2e01f046270f0c0b30f4713e2416943af99d5a", checked := Tryd.checked }
namespace Rows
def none {H : Type} : Left H := { results := [], args := [] }

/- WHAT THE LISTED PACKAGE-LEVEL VARIABLES READ AS WHEN THE CALL BEGINS. Each datum BY PROGRAM (the guide's laid-datum.mjs) off the statement by which the dump's own 'gosem.cut.vars' lays the variable. In a bare row this is a premise. The card (YtjghifocfjbmcacDoorCards.lean) ties it to the program's text. -/
def laid_substation_surd_signs {H : Type} : DataW H := .agg [.lit (.int .i64 (-1)), .lit (.int .i64 (-1)), .lit (.int .i64 2), .lit (.int .i64 (-1)), .lit (.int .i64 0), .lit (.int .i64 1), .lit (.int .i64 2), .lit (.int .i64 1), .lit (.int .i64 1)]
def laid_substation_cyclo_powers {H : Type} : DataW H := .agg [.agg [.lit (.int .i64 1), .lit (.int .i64 0), .lit (.int .i64 0), .lit (.int .i64 0)], .agg [.lit (.int .i64 0), .lit (.int .i64 1), .lit (.int .i64 0), .lit (.int .i64 0)], .agg [.lit (.int .i64 0), .lit (.int .i64 0), .lit (.int .i64 1), .lit (.int .i64 0)], .agg [.lit (.int .i64 0), .lit (.int .i64 0), .lit (.int .i64 0), .lit (.int .i64 1)], .agg [.lit (.int .i64 (-1)), .lit (.int .i64 0), .lit (.int .i64 1), .lit (.int .i64 0)], .agg [.lit (.int .i64 0), .lit (.int .i64 (-1)), .lit (.int .i64 0), .lit (.int .i64 1)]]

/-- 'substationlaw02.SurdOrder': WHATEVER THE INPUT: true; the input reads as it did. -/
def surdOrderSpec : ChangeSpec := { name := "surdOrder", fn := fun _ => fun
  | [d1, d2, d3] => { results := [.lit (.bool true)], args := [d1, d2, d3] }
  | _ => none }
def surdOrderRow : OpenClaim := { program := "ytjghifocfjbmcacdoor", sum := "886da03ff01d938930209eacbb2e01f046270f0c0b30f4713e2416943af99d5a", func := "substation/substationlaw02.SurdOrder", spec := "surdOrder", unfollowed := true, recurses := true, named := ["substation/surd.signs"], apart := false, laid := [("substation/surd.signs", laid_substation_surd_signs)] }
def SurdOrderSaid : Prop := surdOrderRow.holds Tryd.pinned (OpenSpec.ofChange surdOrderSpec)

/-- ITS FALSE NEIGHBOUR: 'it returns false'. Refute it at one input. -/
def surdOrderWrong : ChangeSpec := { name := "surdOrder", fn := fun _ => fun
  | [d1, d2, d3] => { results := [.lit (.bool false)], args := [d1, d2, d3] }
  | _ => none }
def SurdOrderWrongFalsely : Prop := surdOrderRow.holds Tryd.pinned (OpenSpec.ofChange surdOrderWrong)

/-- 'substationlaw02.SurdVersus': WHATEVER THE INPUT: true; the input reads as it did. -/
def surdVersusSpec : ChangeSpec := { name := "surdVersus", fn := fun _ => fun
  | [d1, d2, d3] => { results := [.lit (.bool true)], args := [d1, d2, d3] }
  | _ => none }
def surdVersusRow : OpenClaim := { program := "ytjghifocfjbmcacdoor", sum := "886da03ff01d938930209eacbb2e01f046270f0c0b30f4713e2416943af99d5a", func := "substation/substationlaw02.SurdVersus", spec := "surdVersus", unfollowed := true, recurses := true, named := ["substation/surd.signs"], apart := false, laid := [("substation/surd.signs", laid_substation_surd_signs)] }
def SurdVersusSaid : Prop := surdVersusRow.holds Tryd.pinned (OpenSpec.ofChange surdVersusSpec)

/-- ITS FALSE NEIGHBOUR: 'it returns false'. Refute it at one input. -/
def surdVersusWrong : ChangeSpec := { name := "surdVersus", fn := fun _ => fun
  | [d1, d2, d3] => { results := [.lit (.bool false)], args := [d1, d2, d3] }
  | _ => none }
def SurdVersusWrongFalsely : Prop := surdVersusRow.holds Tryd.pinned (OpenSpec.ofChange surdVersusWrong)

/-- 'substationlaw20.PhasorThresholds': WHATEVER THE INPUT: true; the input reads as it did. -/
def phasorThresholdsSpec : ChangeSpec := { name := "phasorThresholds", fn := fun _ => fun
  | [d1, d2] => { results := [.lit (.bool true)], args := [d1, d2] }
  | _ => none }
def phasorThresholdsRow : OpenClaim := { program := "ytjghifocfjbmcacdoor", sum := "886da03ff01d938930209eacbb2e01f046270f0c0b30f4713e2416943af99d5a", func := "substation/substationlaw20.PhasorThresholds", spec := "phasorThresholds", unfollowed := true, recurses := true, named := ["substation/cyclo.powers", "substation/surd.signs"], apart := false, laid := [("substation/cyclo.powers", laid_substation_cyclo_powers), ("substation/surd.signs", laid_substation_surd_signs)] }
def PhasorThresholdsSaid : Prop := phasorThresholdsRow.holds Tryd.pinned (OpenSpec.ofChange phasorThresholdsSpec)

/-- ITS FALSE NEIGHBOUR: 'it returns false'. Refute it at one input. -/
def phasorThresholdsWrong : ChangeSpec := { name := "phasorThresholds", fn := fun _ => fun
  | [d1, d2] => { results := [.lit (.bool false)], args := [d1, d2] }
  | _ => none }
def PhasorThresholdsWrongFalsely : Prop := phasorThresholdsRow.holds Tryd.pinned (OpenSpec.ofChange phasorThresholdsWrong)

/-- 'substationlaw20.PhasorSizes': WHATEVER THE INPUT: true; the input reads as it did. -/
def phasorSizesSpec : ChangeSpec := { name := "phasorSizes", fn := fun _ => fun
  | [d1, d2, d3] => { results := [.lit (.bool true)], args := [d1, d2, d3] }
  | _ => none }
def phasorSizesRow : OpenClaim := { program := "ytjghifocfjbmcacdoor", sum := "886da03ff01d938930209eacbb2e01f046270f0c0b30f4713e2416943af99d5a", func := "substation/substationlaw20.PhasorSizes", spec := "phasorSizes", unfollowed := true, recurses := true, named := ["substation/cyclo.powers", "substation/surd.signs"], apart := false, laid := [("substation/cyclo.powers", laid_substation_cyclo_powers), ("substation/surd.signs", laid_substation_surd_signs)] }
def PhasorSizesSaid : Prop := phasorSizesRow.holds Tryd.pinned (OpenSpec.ofChange phasorSizesSpec)

/-- ITS FALSE NEIGHBOUR: 'it returns false'. Refute it at one input. -/
def phasorSizesWrong : ChangeSpec := { name := "phasorSizes", fn := fun _ => fun
  | [d1, d2, d3] => { results := [.lit (.bool false)], args := [d1, d2, d3] }
  | _ => none }
def PhasorSizesWrongFalsely : Prop := phasorSizesRow.holds Tryd.pinned (OpenSpec.ofChange phasorSizesWrong)

/- THE SECOND FORM. 'bulk': how many values and letters a reading holds, each counted each time it is reached (what is shared counts as often as it is met; a slice's spare places count too). A statement '..UptoSaid' is the law's where the arguments, and the package variables that the reading takes, are together of bulk at most 1048576: NARROWER than '..Said'. Prove '..Said' where nothing that the law and all that it calls make is longer than what came in: it says more and counts as full. Else prove '..UptoSaid'. A law counts once. -/
mutual
def uptoBulk {H : Type} : DataW H → Nat
  | .lit (.string bytes) => bytes.length + 1
  | .lit _ => 1
  | .nil => 1
  | .ptr d => uptoBulk d + 1
  | .slice elems spare => uptoBulkAll elems + uptoBulkAll spare + 1
  | .agg parts => uptoBulkAll parts + 1
  | .iface _ d => uptoBulk d + 1
  | .map entries => uptoBulkEntries entries + 1
  | .held _ => 1
def uptoBulkAll {H : Type} : List (DataW H) → Nat
  | [] => 0
  | d :: r => uptoBulk d + uptoBulkAll r
def uptoBulkEntries {H : Type} : List (Lit × DataW H) → Nat
  | [] => 0
  | x :: r => uptoBulkEntry x + uptoBulkEntries r
def uptoBulkEntry {H : Type} : Lit × DataW H → Nat
  | (.string bytes, d) => bytes.length + uptoBulk d + 1
  | (_, d) => uptoBulk d + 1
 end
def uptoSmall : (H : Type) → List (DataW H) → Bool := fun _ ds => decide (uptoBulkAll ds ≤ 1048576)
def OpenSpec.upto (s : _root_.Go.ChangeSpec) : _root_.Go.OpenSpec := { _root_.Go.OpenSpec.ofChange s with cond := some uptoSmall }

/-- 'substationlaw02.SurdOrder', WHERE WHAT IT READS IS OF BULK AT MOST 1048576: true; the input reads as it did. -/
def surdOrderUptoRow : OpenClaim := { program := "ytjghifocfjbmcacdoor", sum := "886da03ff01d938930209eacbb2e01f046270f0c0b30f4713e2416943af99d5a", func := "substation/substationlaw02.SurdOrder", spec := "surdOrder", unfollowed := true, recurses := true, named := ["substation/surd.signs"], apart := false, laid := [("substation/surd.signs", laid_substation_surd_signs)], narrowed := true }
def SurdOrderUptoSaid : Prop := surdOrderUptoRow.holds Tryd.pinned (OpenSpec.upto surdOrderSpec)

/-- 'substationlaw02.SurdVersus', WHERE WHAT IT READS IS OF BULK AT MOST 1048576: true; the input reads as it did. -/
def surdVersusUptoRow : OpenClaim := { program := "ytjghifocfjbmcacdoor", sum := "886da03ff01d938930209eacbb2e01f046270f0c0b30f4713e2416943af99d5a", func := "substation/substationlaw02.SurdVersus", spec := "surdVersus", unfollowed := true, recurses := true, named := ["substation/surd.signs"], apart := false, laid := [("substation/surd.signs", laid_substation_surd_signs)], narrowed := true }
def SurdVersusUptoSaid : Prop := surdVersusUptoRow.holds Tryd.pinned (OpenSpec.upto surdVersusSpec)

/-- 'substationlaw20.PhasorThresholds', WHERE WHAT IT READS IS OF BULK AT MOST 1048576: true; the input reads as it did. -/
def phasorThresholdsUptoRow : OpenClaim := { program := "ytjghifocfjbmcacdoor", sum := "886da03ff01d938930209eacbb2e01f046270f0c0b30f4713e2416943af99d5a", func := "substation/substationlaw20.PhasorThresholds", spec := "phasorThresholds", unfollowed := true, recurses := true, named := ["substation/cyclo.powers", "substation/surd.signs"], apart := false, laid := [("substation/cyclo.powers", laid_substation_cyclo_powers), ("substation/surd.signs", laid_substation_surd_signs)], narrowed := true }
def PhasorThresholdsUptoSaid : Prop := phasorThresholdsUptoRow.holds Tryd.pinned (OpenSpec.upto phasorThresholdsSpec)

/-- 'substationlaw20.PhasorSizes', WHERE WHAT IT READS IS OF BULK AT MOST 1048576: true; the input reads as it did. -/
def phasorSizesUptoRow : OpenClaim := { program := "ytjghifocfjbmcacdoor", sum := "886da03ff01d938930209eacbb2e01f046270f0c0b30f4713e2416943af99d5a", func := "substation/substationlaw20.PhasorSizes", spec := "phasorSizes", unfollowed := true, recurses := true, named := ["substation/cyclo.powers", "substation/surd.signs"], apart := false, laid := [("substation/cyclo.powers", laid_substation_cyclo_powers), ("substation/surd.signs", laid_substation_surd_signs)], narrowed := true }
def PhasorSizesUptoSaid : Prop := phasorSizesUptoRow.holds Tryd.pinned (OpenSpec.upto phasorSizesSpec)

end Rows
end Go.Proofs.YtjghifocfjbmcacDoor

/-
  NARROWER THAN 'FOR EVERY INPUT', by the rows' own cells (each row's printed sentence says how): CycloRing: laid · CycloProducts: laid · CycloRotations: laid · CycloParts: laid · CycloBalanced: laid · CycloConjugates: laid · CycloParallelogram: laid · CycloSums: laid · CycloNorms: laid · SequenceBalanced: laid · SequenceTurns: laid · SequenceInverse: laid · SequencePower: laid.
  DERIVED. THE GIVEN ROWS OF THIS SEAT. 13 by the template 'for every input the law returns true; each argument reads behind the call as it read before'; 0 by the template 'total and deterministic' (their statements: YtchmfiiipdjikaaDoorTotals.lean).
  GIVEN WITH THE SEED: the statements are not yours to turn. If you find one false, say at which input.
  Laid BY PROGRAM, IN A SANDBOX (cutbox-rows.mjs): the forced cells as the released guide's own fill.sh prints them over the translation c8a16d9cdb732b1d… (all of the seat's roots in one cut). By AI agents, Wed Nov 11 2026. No macro, syntax, notation, axiom, sorry.
-/
import Derived.Test.YtchmfiiipdjikaaDoorChecked
import GoSem.Claim
import GoSem.ClaimJoined
import GoSem.ClaimMapViews
import Derived.JoinedTies
import Derived.KernelRfl
namespace Go.Proofs.YtchmfiiipdjikaaDoor
/- THE CELL 'sum', in the pinned program and in every row, IS THE sha256 OF THE DUMP (.gsa) THAT YtchmfiiipdjikaaDoorProg.lean LOADS. Nothing in Lean hashes anything: it is a label: what it is worth is what the hold of that sum in a sandbox is worth. -/
noncomputable def Tryd.pinned : Pinned := { name := "ytchmfiiipdjikaadoor", sum := "c8a16d9cdb732b1d8c690054819c322ea41e60bad38ebe49786dd6ec0e727ac9", checked := Tryd.checked }
namespace Rows
def none {H : Type} : Left H := { results := [], args := [] }

/- WHAT THE LISTED PACKAGE-LEVEL VARIABLES READ AS WHEN THE CALL BEGINS. Each datum BY PROGRAM (the guide's laid-datum.mjs) off the statement by which the dump's own 'gosem.cut.vars' lays the variable. In a bare row this is a premise. The card (YtchmfiiipdjikaaDoorCards.lean) ties it to the program's text. -/
def laid_substation_cyclo_powers {H : Type} : DataW H := .agg [.agg [.lit (.int .i64 1), .lit (.int .i64 0), .lit (.int .i64 0), .lit (.int .i64 0)], .agg [.lit (.int .i64 0), .lit (.int .i64 1), .lit (.int .i64 0), .lit (.int .i64 0)], .agg [.lit (.int .i64 0), .lit (.int .i64 0), .lit (.int .i64 1), .lit (.int .i64 0)], .agg [.lit (.int .i64 0), .lit (.int .i64 0), .lit (.int .i64 0), .lit (.int .i64 1)], .agg [.lit (.int .i64 (-1)), .lit (.int .i64 0), .lit (.int .i64 1), .lit (.int .i64 0)], .agg [.lit (.int .i64 0), .lit (.int .i64 (-1)), .lit (.int .i64 0), .lit (.int .i64 1)]]
def laid_substation_surd_signs {H : Type} : DataW H := .agg [.lit (.int .i64 (-1)), .lit (.int .i64 (-1)), .lit (.int .i64 2), .lit (.int .i64 (-1)), .lit (.int .i64 0), .lit (.int .i64 1), .lit (.int .i64 2), .lit (.int .i64 1), .lit (.int .i64 1)]

/-- 'substationlaw03.CycloRing': WHATEVER THE INPUT: true; the input reads as it did. -/
def cycloRingSpec : ChangeSpec := { name := "cycloRing", fn := fun _ => fun
  | [d1, d2, d3] => { results := [.lit (.bool true)], args := [d1, d2, d3] }
  | _ => none }
def cycloRingRow : OpenClaim := { program := "ytchmfiiipdjikaadoor", sum := "c8a16d9cdb732b1d8c690054819c322ea41e60bad38ebe49786dd6ec0e727ac9", func := "substation/substationlaw03.CycloRing", spec := "cycloRing", unfollowed := true, recurses := true, named := ["substation/cyclo.powers"], apart := false, laid := [("substation/cyclo.powers", laid_substation_cyclo_powers)] }
def CycloRingSaid : Prop := cycloRingRow.holds Tryd.pinned (OpenSpec.ofChange cycloRingSpec)

/-- ITS FALSE NEIGHBOUR: 'it returns false'. Refute it at one input. -/
def cycloRingWrong : ChangeSpec := { name := "cycloRing", fn := fun _ => fun
  | [d1, d2, d3] => { results := [.lit (.bool false)], args := [d1, d2, d3] }
  | _ => none }
def CycloRingWrongFalsely : Prop := cycloRingRow.holds Tryd.pinned (OpenSpec.ofChange cycloRingWrong)

/-- 'substationlaw03.CycloProducts': WHATEVER THE INPUT: true; the input reads as it did. -/
def cycloProductsSpec : ChangeSpec := { name := "cycloProducts", fn := fun _ => fun
  | [d1, d2, d3] => { results := [.lit (.bool true)], args := [d1, d2, d3] }
  | _ => none }
def cycloProductsRow : OpenClaim := { program := "ytchmfiiipdjikaadoor", sum := "c8a16d9cdb732b1d8c690054819c322ea41e60bad38ebe49786dd6ec0e727ac9", func := "substation/substationlaw03.CycloProducts", spec := "cycloProducts", unfollowed := true, recurses := true, named := ["substation/cyclo.powers"], apart := false, laid := [("substation/cyclo.powers", laid_substation_cyclo_powers)] }
def CycloProductsSaid : Prop := cycloProductsRow.holds Tryd.pinned (OpenSpec.ofChange cycloProductsSpec)

/-- ITS FALSE NEIGHBOUR: 'it returns false'. Refute it at one input. -/
def cycloProductsWrong : ChangeSpec := { name := "cycloProducts", fn := fun _ => fun
  | [d1, d2, d3] => { results := [.lit (.bool false)], args := [d1, d2, d3] }
  | _ => none }
def CycloProductsWrongFalsely : Prop := cycloProductsRow.holds Tryd.pinned (OpenSpec.ofChange cycloProductsWrong)

/-- 'substationlaw03.CycloRotations': WHATEVER THE INPUT: true; the input reads as it did. -/
def cycloRotationsSpec : ChangeSpec := { name := "cycloRotations", fn := fun _ => fun
  | [d1, d2, d3] => { results := [.lit (.bool true)], args := [d1, d2, d3] }
  | _ => none }
def cycloRotationsRow : OpenClaim := { program := "ytchmfiiipdjikaadoor", sum := "c8a16d9cdb732b1d8c690054819c322ea41e60bad38ebe49786dd6ec0e727ac9", func := "substation/substationlaw03.CycloRotations", spec := "cycloRotations", unfollowed := true, recurses := true, named := ["substation/cyclo.powers"], apart := false, laid := [("substation/cyclo.powers", laid_substation_cyclo_powers)] }
def CycloRotationsSaid : Prop := cycloRotationsRow.holds Tryd.pinned (OpenSpec.ofChange cycloRotationsSpec)

/-- ITS FALSE NEIGHBOUR: 'it returns false'. Refute it at one input. -/
def cycloRotationsWrong : ChangeSpec := { name := "cycloRotations", fn := fun _ => fun
  | [d1, d2, d3] => { results := [.lit (.bool false)], args := [d1, d2, d3] }
  | _ => none }
def CycloRotationsWrongFalsely : Prop := cycloRotationsRow.holds Tryd.pinned (OpenSpec.ofChange cycloRotationsWrong)

/-- 'substationlaw03.CycloParts': WHATEVER THE INPUT: true; the input reads as it did. -/
def cycloPartsSpec : ChangeSpec := { name := "cycloParts", fn := fun _ => fun
  | [d] => { results := [.lit (.bool true)], args := [d] }
  | _ => none }
def cycloPartsRow : OpenClaim := { program := "ytchmfiiipdjikaadoor", sum := "c8a16d9cdb732b1d8c690054819c322ea41e60bad38ebe49786dd6ec0e727ac9", func := "substation/substationlaw03.CycloParts", spec := "cycloParts", unfollowed := true, recurses := true, named := ["substation/cyclo.powers"], apart := false, laid := [("substation/cyclo.powers", laid_substation_cyclo_powers)] }
def CycloPartsSaid : Prop := cycloPartsRow.holds Tryd.pinned (OpenSpec.ofChange cycloPartsSpec)

/-- ITS FALSE NEIGHBOUR: 'it returns false'. Refute it at one input. -/
def cycloPartsWrong : ChangeSpec := { name := "cycloParts", fn := fun _ => fun
  | [d] => { results := [.lit (.bool false)], args := [d] }
  | _ => none }
def CycloPartsWrongFalsely : Prop := cycloPartsRow.holds Tryd.pinned (OpenSpec.ofChange cycloPartsWrong)

/-- 'substationlaw03.CycloBalanced': WHATEVER THE INPUT: true; the input reads as it did. -/
def cycloBalancedSpec : ChangeSpec := { name := "cycloBalanced", fn := fun _ => fun
  | [d1, d2] => { results := [.lit (.bool true)], args := [d1, d2] }
  | _ => none }
def cycloBalancedRow : OpenClaim := { program := "ytchmfiiipdjikaadoor", sum := "c8a16d9cdb732b1d8c690054819c322ea41e60bad38ebe49786dd6ec0e727ac9", func := "substation/substationlaw03.CycloBalanced", spec := "cycloBalanced", unfollowed := true, recurses := true, named := ["substation/cyclo.powers"], apart := false, laid := [("substation/cyclo.powers", laid_substation_cyclo_powers)] }
def CycloBalancedSaid : Prop := cycloBalancedRow.holds Tryd.pinned (OpenSpec.ofChange cycloBalancedSpec)

/-- ITS FALSE NEIGHBOUR: 'it returns false'. Refute it at one input. -/
def cycloBalancedWrong : ChangeSpec := { name := "cycloBalanced", fn := fun _ => fun
  | [d1, d2] => { results := [.lit (.bool false)], args := [d1, d2] }
  | _ => none }
def CycloBalancedWrongFalsely : Prop := cycloBalancedRow.holds Tryd.pinned (OpenSpec.ofChange cycloBalancedWrong)

/-- 'substationlaw03.CycloConjugates': WHATEVER THE INPUT: true; the input reads as it did. -/
def cycloConjugatesSpec : ChangeSpec := { name := "cycloConjugates", fn := fun _ => fun
  | [d1, d2] => { results := [.lit (.bool true)], args := [d1, d2] }
  | _ => none }
def cycloConjugatesRow : OpenClaim := { program := "ytchmfiiipdjikaadoor", sum := "c8a16d9cdb732b1d8c690054819c322ea41e60bad38ebe49786dd6ec0e727ac9", func := "substation/substationlaw03.CycloConjugates", spec := "cycloConjugates", unfollowed := true, recurses := true, named := ["substation/cyclo.powers"], apart := false, laid := [("substation/cyclo.powers", laid_substation_cyclo_powers)] }
def CycloConjugatesSaid : Prop := cycloConjugatesRow.holds Tryd.pinned (OpenSpec.ofChange cycloConjugatesSpec)

/-- ITS FALSE NEIGHBOUR: 'it returns false'. Refute it at one input. -/
def cycloConjugatesWrong : ChangeSpec := { name := "cycloConjugates", fn := fun _ => fun
  | [d1, d2] => { results := [.lit (.bool false)], args := [d1, d2] }
  | _ => none }
def CycloConjugatesWrongFalsely : Prop := cycloConjugatesRow.holds Tryd.pinned (OpenSpec.ofChange cycloConjugatesWrong)

/-- 'substationlaw03.CycloParallelogram': WHATEVER THE INPUT: true; the input reads as it did. -/
def cycloParallelogramSpec : ChangeSpec := { name := "cycloParallelogram", fn := fun _ => fun
  | [d1, d2] => { results := [.lit (.bool true)], args := [d1, d2] }
  | _ => none }
def cycloParallelogramRow : OpenClaim := { program := "ytchmfiiipdjikaadoor", sum := "c8a16d9cdb732b1d8c690054819c322ea41e60bad38ebe49786dd6ec0e727ac9", func := "substation/substationlaw03.CycloParallelogram", spec := "cycloParallelogram", unfollowed := true, recurses := true, named := ["substation/cyclo.powers"], apart := false, laid := [("substation/cyclo.powers", laid_substation_cyclo_powers)] }
def CycloParallelogramSaid : Prop := cycloParallelogramRow.holds Tryd.pinned (OpenSpec.ofChange cycloParallelogramSpec)

/-- ITS FALSE NEIGHBOUR: 'it returns false'. Refute it at one input. -/
def cycloParallelogramWrong : ChangeSpec := { name := "cycloParallelogram", fn := fun _ => fun
  | [d1, d2] => { results := [.lit (.bool false)], args := [d1, d2] }
  | _ => none }
def CycloParallelogramWrongFalsely : Prop := cycloParallelogramRow.holds Tryd.pinned (OpenSpec.ofChange cycloParallelogramWrong)

/-- 'substationlaw03.CycloSums': WHATEVER THE INPUT: true; the input reads as it did. -/
def cycloSumsSpec : ChangeSpec := { name := "cycloSums", fn := fun _ => fun
  | [d1, d2, d3] => { results := [.lit (.bool true)], args := [d1, d2, d3] }
  | _ => none }
def cycloSumsRow : OpenClaim := { program := "ytchmfiiipdjikaadoor", sum := "c8a16d9cdb732b1d8c690054819c322ea41e60bad38ebe49786dd6ec0e727ac9", func := "substation/substationlaw03.CycloSums", spec := "cycloSums", unfollowed := true, recurses := true, named := ["substation/cyclo.powers"], apart := false, laid := [("substation/cyclo.powers", laid_substation_cyclo_powers)] }
def CycloSumsSaid : Prop := cycloSumsRow.holds Tryd.pinned (OpenSpec.ofChange cycloSumsSpec)

/-- ITS FALSE NEIGHBOUR: 'it returns false'. Refute it at one input. -/
def cycloSumsWrong : ChangeSpec := { name := "cycloSums", fn := fun _ => fun
  | [d1, d2, d3] => { results := [.lit (.bool false)], args := [d1, d2, d3] }
  | _ => none }
def CycloSumsWrongFalsely : Prop := cycloSumsRow.holds Tryd.pinned (OpenSpec.ofChange cycloSumsWrong)

/-- 'substationlaw03.CycloNorms': WHATEVER THE INPUT: true; the input reads as it did. -/
def cycloNormsSpec : ChangeSpec := { name := "cycloNorms", fn := fun _ => fun
  | [d1, d2, d3] => { results := [.lit (.bool true)], args := [d1, d2, d3] }
  | _ => none }
def cycloNormsRow : OpenClaim := { program := "ytchmfiiipdjikaadoor", sum := "c8a16d9cdb732b1d8c690054819c322ea41e60bad38ebe49786dd6ec0e727ac9", func := "substation/substationlaw03.CycloNorms", spec := "cycloNorms", unfollowed := true, recurses := true, named := ["substation/cyclo.powers", "substation/surd.signs"], apart := false, laid := [("substation/cyclo.powers", laid_substation_cyclo_powers), ("substation/surd.signs", laid_substation_surd_signs)] }
def CycloNormsSaid : Prop := cycloNormsRow.holds Tryd.pinned (OpenSpec.ofChange cycloNormsSpec)

/-- ITS FALSE NEIGHBOUR: 'it returns false'. Refute it at one input. -/
def cycloNormsWrong : ChangeSpec := { name := "cycloNorms", fn := fun _ => fun
  | [d1, d2, d3] => { results := [.lit (.bool false)], args := [d1, d2, d3] }
  | _ => none }
def CycloNormsWrongFalsely : Prop := cycloNormsRow.holds Tryd.pinned (OpenSpec.ofChange cycloNormsWrong)

/-- 'substationlaw21.SequenceBalanced': WHATEVER THE INPUT: true; the input reads as it did. -/
def sequenceBalancedSpec : ChangeSpec := { name := "sequenceBalanced", fn := fun _ => fun
  | [d] => { results := [.lit (.bool true)], args := [d] }
  | _ => none }
def sequenceBalancedRow : OpenClaim := { program := "ytchmfiiipdjikaadoor", sum := "c8a16d9cdb732b1d8c690054819c322ea41e60bad38ebe49786dd6ec0e727ac9", func := "substation/substationlaw21.SequenceBalanced", spec := "sequenceBalanced", unfollowed := true, recurses := true, named := ["substation/cyclo.powers"], apart := false, laid := [("substation/cyclo.powers", laid_substation_cyclo_powers)] }
def SequenceBalancedSaid : Prop := sequenceBalancedRow.holds Tryd.pinned (OpenSpec.ofChange sequenceBalancedSpec)

/-- ITS FALSE NEIGHBOUR: 'it returns false'. Refute it at one input. -/
def sequenceBalancedWrong : ChangeSpec := { name := "sequenceBalanced", fn := fun _ => fun
  | [d] => { results := [.lit (.bool false)], args := [d] }
  | _ => none }
def SequenceBalancedWrongFalsely : Prop := sequenceBalancedRow.holds Tryd.pinned (OpenSpec.ofChange sequenceBalancedWrong)

/-- 'substationlaw21.SequenceTurns': WHATEVER THE INPUT: true; the input reads as it did. -/
def sequenceTurnsSpec : ChangeSpec := { name := "sequenceTurns", fn := fun _ => fun
  | [d1, d2] => { results := [.lit (.bool true)], args := [d1, d2] }
  | _ => none }
def sequenceTurnsRow : OpenClaim := { program := "ytchmfiiipdjikaadoor", sum := "c8a16d9cdb732b1d8c690054819c322ea41e60bad38ebe49786dd6ec0e727ac9", func := "substation/substationlaw21.SequenceTurns", spec := "sequenceTurns", unfollowed := true, recurses := true, named := ["substation/cyclo.powers"], apart := false, laid := [("substation/cyclo.powers", laid_substation_cyclo_powers)] }
def SequenceTurnsSaid : Prop := sequenceTurnsRow.holds Tryd.pinned (OpenSpec.ofChange sequenceTurnsSpec)

/-- ITS FALSE NEIGHBOUR: 'it returns false'. Refute it at one input. -/
def sequenceTurnsWrong : ChangeSpec := { name := "sequenceTurns", fn := fun _ => fun
  | [d1, d2] => { results := [.lit (.bool false)], args := [d1, d2] }
  | _ => none }
def SequenceTurnsWrongFalsely : Prop := sequenceTurnsRow.holds Tryd.pinned (OpenSpec.ofChange sequenceTurnsWrong)

/-- 'substationlaw21.SequenceInverse': WHATEVER THE INPUT: true; the input reads as it did. -/
def sequenceInverseSpec : ChangeSpec := { name := "sequenceInverse", fn := fun _ => fun
  | [d] => { results := [.lit (.bool true)], args := [d] }
  | _ => none }
def sequenceInverseRow : OpenClaim := { program := "ytchmfiiipdjikaadoor", sum := "c8a16d9cdb732b1d8c690054819c322ea41e60bad38ebe49786dd6ec0e727ac9", func := "substation/substationlaw21.SequenceInverse", spec := "sequenceInverse", unfollowed := true, recurses := true, named := ["substation/cyclo.powers"], apart := false, laid := [("substation/cyclo.powers", laid_substation_cyclo_powers)] }
def SequenceInverseSaid : Prop := sequenceInverseRow.holds Tryd.pinned (OpenSpec.ofChange sequenceInverseSpec)

/-- ITS FALSE NEIGHBOUR: 'it returns false'. Refute it at one input. -/
def sequenceInverseWrong : ChangeSpec := { name := "sequenceInverse", fn := fun _ => fun
  | [d] => { results := [.lit (.bool false)], args := [d] }
  | _ => none }
def SequenceInverseWrongFalsely : Prop := sequenceInverseRow.holds Tryd.pinned (OpenSpec.ofChange sequenceInverseWrong)

/-- 'substationlaw21.SequencePower': WHATEVER THE INPUT: true; the input reads as it did. -/
def sequencePowerSpec : ChangeSpec := { name := "sequencePower", fn := fun _ => fun
  | [d] => { results := [.lit (.bool true)], args := [d] }
  | _ => none }
def sequencePowerRow : OpenClaim := { program := "ytchmfiiipdjikaadoor", sum := "c8a16d9cdb732b1d8c690054819c322ea41e60bad38ebe49786dd6ec0e727ac9", func := "substation/substationlaw21.SequencePower", spec := "sequencePower", unfollowed := true, recurses := true, named := ["substation/cyclo.powers"], apart := false, laid := [("substation/cyclo.powers", laid_substation_cyclo_powers)] }
def SequencePowerSaid : Prop := sequencePowerRow.holds Tryd.pinned (OpenSpec.ofChange sequencePowerSpec)

/-- ITS FALSE NEIGHBOUR: 'it returns false'. Refute it at one input. -/
def sequencePowerWrong : ChangeSpec := { name := "sequencePower", fn := fun _ => fun
  | [d] => { results := [.lit (.bool false)], args := [d] }
  | _ => none }
def SequencePowerWrongFalsely : Prop := sequencePowerRow.holds Tryd.pinned (OpenSpec.ofChange sequencePowerWrong)

/- THE SECOND FORM. 'bulk': how many values and letters a reading holds, each counted each time it is reached (what is shared counts as often as it is met; a slice's spare places count too). A statement '..UptoSaid' is the law's where the arguments, and the package variables that the reading takes, are together of bulk at most 1048576: NARROWER than '..Said'. Prove '..Said' where nothing that the law and all that it calls make is longer than what came in: it says more and counts as full. Else prove '..UptoSaid'. A law counts once. -/
mutual
def uptoBulk {H : Type} : DataW H → Nat
  | .lit (.string bytes) => bytes.length + 1
  | .lit _ => 1
  | .nil => 1
  | .ptr d => uptoBulk d + 1
  | .slice elems spare => uptoBulkAll elems + uptoBulkAll spare + 1
  | .agg parts => uptoBulkAll parts + 1
  | .iface _ d => uptoBulk d + 1
  | .map entries => uptoBulkEntries entries + 1
  | .held _ => 1
def uptoBulkAll {H : Type} : List (DataW H) → Nat
  | [] => 0
  | d :: r => uptoBulk d + uptoBulkAll r
def uptoBulkEntries {H : Type} : List (Lit × DataW H) → Nat
  | [] => 0
  | x :: r => uptoBulkEntry x + uptoBulkEntries r
def uptoBulkEntry {H : Type} : Lit × DataW H → Nat
  | (.string bytes, d) => bytes.length + uptoBulk d + 1
  | (_, d) => uptoBulk d + 1
 end
def uptoSmall : (H : Type) → List (DataW H) → Bool := fun _ ds => decide (uptoBulkAll ds ≤ 1048576)
def OpenSpec.upto (s : _root_.Go.ChangeSpec) : _root_.Go.OpenSpec := { _root_.Go.OpenSpec.ofChange s with cond := some uptoSmall }

/-- 'substationlaw03.CycloRing', WHERE WHAT IT READS IS OF BULK AT MOST 1048576: true; the input reads as it did. -/
def cycloRingUptoRow : OpenClaim := { program := "ytchmfiiipdjikaadoor", sum := "c8a16d9cdb732b1d8c690054819c322ea41e60bad38ebe49786dd6ec0e727ac9", func := "substation/substationlaw03.CycloRing", spec := "cycloRing", unfollowed := true, recurses := true, named := ["substation/cyclo.powers"], apart := false, laid := [("substation/cyclo.powers", laid_substation_cyclo_powers)], narrowed := true }
def CycloRingUptoSaid : Prop := cycloRingUptoRow.holds Tryd.pinned (OpenSpec.upto cycloRingSpec)

/-- 'substationlaw03.CycloProducts', WHERE WHAT IT READS IS OF BULK AT MOST 1048576: true; the input reads as it did. -/
def cycloProductsUptoRow : OpenClaim := { program := "ytchmfiiipdjikaadoor", sum := "c8a16d9cdb732b1d8c690054819c322ea41e60bad38ebe49786dd6ec0e727ac9", func := "substation/substationlaw03.CycloProducts", spec := "cycloProducts", unfollowed := true, recurses := true, named := ["substation/cyclo.powers"], apart := false, laid := [("substation/cyclo.powers", laid_substation_cyclo_powers)], narrowed := true }
def CycloProductsUptoSaid : Prop := cycloProductsUptoRow.holds Tryd.pinned (OpenSpec.upto cycloProductsSpec)

/-- 'substationlaw03.CycloRotations', WHERE WHAT IT READS IS OF BULK AT MOST 1048576: true; the input reads as it did. -/
def cycloRotationsUptoRow : OpenClaim := { program := "ytchmfiiipdjikaadoor", sum := "c8a16d9cdb732b1d8c690054819c322ea41e60bad38ebe49786dd6ec0e727ac9", func := "substation/substationlaw03.CycloRotations", spec := "cycloRotations", unfollowed := true, recurses := true, named := ["substation/cyclo.powers"], apart := false, laid := [("substation/cyclo.powers", laid_substation_cyclo_powers)], narrowed := true }
def CycloRotationsUptoSaid : Prop := cycloRotationsUptoRow.holds Tryd.pinned (OpenSpec.upto cycloRotationsSpec)

/-- 'substationlaw03.CycloParts', WHERE WHAT IT READS IS OF BULK AT MOST 1048576: true; the input reads as it did. -/
def cycloPartsUptoRow : OpenClaim := { program := "ytchmfiiipdjikaadoor", sum := "c8a16d9cdb732b1d8c690054819c322ea41e60bad38ebe49786dd6ec0e727ac9", func := "substation/substationlaw03.CycloParts", spec := "cycloParts", unfollowed := true, recurses := true, named := ["substation/cyclo.powers"], apart := false, laid := [("substation/cyclo.powers", laid_substation_cyclo_powers)], narrowed := true }
def CycloPartsUptoSaid : Prop := cycloPartsUptoRow.holds Tryd.pinned (OpenSpec.upto cycloPartsSpec)

/-- 'substationlaw03.CycloBalanced', WHERE WHAT IT READS IS OF BULK AT MOST 1048576: true; the input reads as it did. -/
def cycloBalancedUptoRow : OpenClaim := { program := "ytchmfiiipdjikaadoor", sum := "c8a16d9cdb732b1d8c690054819c322ea41e60bad38ebe49786dd6ec0e727ac9", func := "substation/substationlaw03.CycloBalanced", spec := "cycloBalanced", unfollowed := true, recurses := true, named := ["substation/cyclo.powers"], apart := false, laid := [("substation/cyclo.powers", laid_substation_cyclo_powers)], narrowed := true }
def CycloBalancedUptoSaid : Prop := cycloBalancedUptoRow.holds Tryd.pinned (OpenSpec.upto cycloBalancedSpec)

/-- 'substationlaw03.CycloConjugates', WHERE WHAT IT READS IS OF BULK AT MOST 1048576: true; the input reads as it did. -/
def cycloConjugatesUptoRow : OpenClaim := { program := "ytchmfiiipdjikaadoor", sum := "c8a16d9cdb732b1d8c690054819c322ea41e60bad38ebe49786dd6ec0e727ac9", func := "substation/substationlaw03.CycloConjugates", spec := "cycloConjugates", unfollowed := true, recurses := true, named := ["substation/cyclo.powers"], apart := false, laid := [("substation/cyclo.powers", laid_substation_cyclo_powers)], narrowed := true }
def CycloConjugatesUptoSaid : Prop := cycloConjugatesUptoRow.holds Tryd.pinned (OpenSpec.upto cycloConjugatesSpec)

/-- 'substationlaw03.CycloParallelogram', WHERE WHAT IT READS IS OF BULK AT MOST 1048576: true; the input reads as it did. -/
def cycloParallelogramUptoRow : OpenClaim := { program := "ytchmfiiipdjikaadoor", sum := "c8a16d9cdb732b1d8c690054819c322ea41e60bad38ebe49786dd6ec0e727ac9", func := "substation/substationlaw03.CycloParallelogram", spec := "cycloParallelogram", unfollowed := true, recurses := true, named := ["substation/cyclo.powers"], apart := false, laid := [("substation/cyclo.powers", laid_substation_cyclo_powers)], narrowed := true }
def CycloParallelogramUptoSaid : Prop := cycloParallelogramUptoRow.holds Tryd.pinned (OpenSpec.upto cycloParallelogramSpec)

/-- 'substationlaw03.CycloSums', WHERE WHAT IT READS IS OF BULK AT MOST 1048576: true; the input reads as it did. -/
def cycloSumsUptoRow : OpenClaim := { program := "ytchmfiiipdjikaadoor", sum := "c8a16d9cdb732b1d8c690054819c322ea41e60bad38ebe49786dd6ec0e727ac9", func := "substation/substationlaw03.CycloSums", spec := "cycloSums", unfollowed := true, recurses := true, named := ["substation/cyclo.powers"], apart := false, laid := [("substation/cyclo.powers", laid_substation_cyclo_powers)], narrowed := true }
def CycloSumsUptoSaid : Prop := cycloSumsUptoRow.holds Tryd.pinned (OpenSpec.upto cycloSumsSpec)

/-- 'substationlaw03.CycloNorms', WHERE WHAT IT READS IS OF BULK AT MOST 1048576: true; the input reads as it did. -/
def cycloNormsUptoRow : OpenClaim := { program := "ytchmfiiipdjikaadoor", sum := "c8a16d9cdb732b1d8c690054819c322ea41e60bad38ebe49786dd6ec0e727ac9", func := "substation/substationlaw03.CycloNorms", spec := "cycloNorms", unfollowed := true, recurses := true, named := ["substation/cyclo.powers", "substation/surd.signs"], apart := false, laid := [("substation/cyclo.powers", laid_substation_cyclo_powers), ("substation/surd.signs", laid_substation_surd_signs)], narrowed := true }
def CycloNormsUptoSaid : Prop := cycloNormsUptoRow.holds Tryd.pinned (OpenSpec.upto cycloNormsSpec)

/-- 'substationlaw21.SequenceBalanced', WHERE WHAT IT READS IS OF BULK AT MOST 1048576: true; the input reads as it did. -/
def sequenceBalancedUptoRow : OpenClaim := { program := "ytchmfiiipdjikaadoor", sum := "c8a16d9cdb732b1d8c690054819c322ea41e60bad38ebe49786dd6ec0e727ac9", func := "substation/substationlaw21.SequenceBalanced", spec := "sequenceBalanced", unfollowed := true, recurses := true, named := ["substation/cyclo.powers"], apart := false, laid := [("substation/cyclo.powers", laid_substation_cyclo_powers)], narrowed := true }
def SequenceBalancedUptoSaid : Prop := sequenceBalancedUptoRow.holds Tryd.pinned (OpenSpec.upto sequenceBalancedSpec)

/-- 'substationlaw21.SequenceTurns', WHERE WHAT IT READS IS OF BULK AT MOST 1048576: true; the input reads as it did. -/
def sequenceTurnsUptoRow : OpenClaim := { program := "ytchmfiiipdjikaadoor", sum := "c8a16d9cdb732b1d8c690054819c322ea41e60bad38ebe49786dd6ec0e727ac9", func := "substation/substationlaw21.SequenceTurns", spec := "sequenceTurns", unfollowed := true, recurses := true, named := ["substation/cyclo.powers"], apart := false, laid := [("substation/cyclo.powers", laid_substation_cyclo_powers)], narrowed := true }
def SequenceTurnsUptoSaid : Prop := sequenceTurnsUptoRow.holds Tryd.pinned (OpenSpec.upto sequenceTurnsSpec)

/-- 'substationlaw21.SequenceInverse', WHERE WHAT IT READS IS OF BULK AT MOST 1048576: true; the input reads as it did. -/
def sequenceInverseUptoRow : OpenClaim := { program := "ytchmfiiipdjikaadoor", sum := "c8a16d9cdb732b1d8c690054819c322ea41e60bad38ebe49786dd6ec0e727ac9", func := "substation/substationlaw21.SequenceInverse", spec := "sequenceInverse", unfollowed := true, recurses := true, named := ["substation/cyclo.powers"], apart := false, laid := [("substation/cyclo.powers", laid_substation_cyclo_powers)], narrowed := true }
def SequenceInverseUptoSaid : Prop := sequenceInverseUptoRow.holds Tryd.pinned (OpenSpec.upto sequenceInverseSpec)

/-- 'substationlaw21.SequencePower', WHERE WHAT IT READS IS OF BULK AT MOST 1048576: true; the input reads as it did. -/
def sequencePowerUptoRow : OpenClaim := { program := "ytchmfiiipdjikaadoor", sum := "c8a16d9cdb732b1d8c690054819c322ea41e60bad38ebe49786dd6ec0e727ac9", func := "substation/substationlaw21.SequencePower", spec := "sequencePower", unfollowed := true, recurses := true, named := ["substation/cyclo.powers"], apart := false, laid := [("substation/cyclo.powers", laid_substation_cyclo_powers)], narrowed := true }
def SequencePowerUptoSaid : Prop := sequencePowerUptoRow.holds Tryd.pinned (OpenSpec.upto sequencePowerSpec)

end Rows
end Go.Proofs.YtchmfiiipdjikaaDoor

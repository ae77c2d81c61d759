/-
  NARROWER THAN 'FOR EVERY INPUT', by the rows' own cells (each row's printed sentence says how): PhasorHalves: laid · PhasorTransforms: laid · PhasorDelay: laid · PhasorLinear: laid · PhasorBacks: laid · PhasorParseval: laid · PhasorInverse: laid.
  DERIVED. THE GIVEN ROWS OF THIS SEAT. 7 by the template 'for every input the law returns true; each argument reads behind the call as it read before'; 0 by the template 'total and deterministic' (their statements: YtjghifocfjbmcaaDoorTotals.lean).
  GIVEN WITH THE SEED: the statements are not yours to turn. If you find one false, say at which input.
  Laid BY PROGRAM, IN A SANDBOX (cutbox-rows.mjs): the forced cells as the released guide's own fill.sh prints them over the translation 81d72dd1074abd93… (all of the seat's roots in one cut). By AI agents, Wed Nov 11 2026. No macro, syntax, notation, axiom, sorry.
-/
import Derived.Test.YtjghifocfjbmcaaDoorChecked
import GoSem.Claim
import GoSem.ClaimJoined
import GoSem.ClaimMapViews
import Derived.JoinedTies
import Derived.KernelRfl
namespace Go.Proofs.YtjghifocfjbmcaaDoor
/- THE CELL 'sum', in the pinned program and in every row, IS THE sha256 OF THE DUMP (.gsa) THAT YtjghifocfjbmcaaDoorProg.lean LOADS. Nothing in Lean hashes anything: it is a label: what it is worth is what the hold of that sum in a sandbox is worth. -/
noncomputable def Tryd.pinned : Pinned := { name := "ytjghifocfjbmcaadoor", sum := "81d72dd1074abd93ab599a1d619745b9df7adbc1db8b38532315657a75b660de", checked := Tryd.checked }
namespace Rows
def none {H : Type} : Left H := { results := [], args := [] }

/- WHAT THE LISTED PACKAGE-LEVEL VARIABLES READ AS WHEN THE CALL BEGINS. Each datum BY PROGRAM (the guide's laid-datum.mjs) off the statement by which the dump's own 'gosem.cut.vars' lays the variable. In a bare row this is a premise. The card (YtjghifocfjbmcaaDoorCards.lean) ties it to the program's text. -/
def laid_substation_cyclo_powers {H : Type} : DataW H := .agg [.agg [.lit (.int .i64 1), .lit (.int .i64 0), .lit (.int .i64 0), .lit (.int .i64 0)], .agg [.lit (.int .i64 0), .lit (.int .i64 1), .lit (.int .i64 0), .lit (.int .i64 0)], .agg [.lit (.int .i64 0), .lit (.int .i64 0), .lit (.int .i64 1), .lit (.int .i64 0)], .agg [.lit (.int .i64 0), .lit (.int .i64 0), .lit (.int .i64 0), .lit (.int .i64 1)], .agg [.lit (.int .i64 (-1)), .lit (.int .i64 0), .lit (.int .i64 1), .lit (.int .i64 0)], .agg [.lit (.int .i64 0), .lit (.int .i64 (-1)), .lit (.int .i64 0), .lit (.int .i64 1)]]

/-- 'substationlaw20.PhasorHalves': WHATEVER THE INPUT: true; the input reads as it did. -/
def phasorHalvesSpec : ChangeSpec := { name := "phasorHalves", fn := fun _ => fun
  | [d1, d2] => { results := [.lit (.bool true)], args := [d1, d2] }
  | _ => none }
def phasorHalvesRow : OpenClaim := { program := "ytjghifocfjbmcaadoor", sum := "81d72dd1074abd93ab599a1d619745b9df7adbc1db8b38532315657a75b660de", func := "substation/substationlaw20.PhasorHalves", spec := "phasorHalves", unfollowed := true, recurses := true, named := ["substation/cyclo.powers"], apart := false, laid := [("substation/cyclo.powers", laid_substation_cyclo_powers)] }
def PhasorHalvesSaid : Prop := phasorHalvesRow.holds Tryd.pinned (OpenSpec.ofChange phasorHalvesSpec)

/-- ITS FALSE NEIGHBOUR: 'it returns false'. Refute it at one input. -/
def phasorHalvesWrong : ChangeSpec := { name := "phasorHalves", fn := fun _ => fun
  | [d1, d2] => { results := [.lit (.bool false)], args := [d1, d2] }
  | _ => none }
def PhasorHalvesWrongFalsely : Prop := phasorHalvesRow.holds Tryd.pinned (OpenSpec.ofChange phasorHalvesWrong)

/-- 'substationlaw20.PhasorTransforms': WHATEVER THE INPUT: true; the input reads as it did. -/
def phasorTransformsSpec : ChangeSpec := { name := "phasorTransforms", fn := fun _ => fun
  | [d1, d2] => { results := [.lit (.bool true)], args := [d1, d2] }
  | _ => none }
def phasorTransformsRow : OpenClaim := { program := "ytjghifocfjbmcaadoor", sum := "81d72dd1074abd93ab599a1d619745b9df7adbc1db8b38532315657a75b660de", func := "substation/substationlaw20.PhasorTransforms", spec := "phasorTransforms", unfollowed := true, recurses := true, named := ["substation/cyclo.powers"], apart := false, laid := [("substation/cyclo.powers", laid_substation_cyclo_powers)] }
def PhasorTransformsSaid : Prop := phasorTransformsRow.holds Tryd.pinned (OpenSpec.ofChange phasorTransformsSpec)

/-- ITS FALSE NEIGHBOUR: 'it returns false'. Refute it at one input. -/
def phasorTransformsWrong : ChangeSpec := { name := "phasorTransforms", fn := fun _ => fun
  | [d1, d2] => { results := [.lit (.bool false)], args := [d1, d2] }
  | _ => none }
def PhasorTransformsWrongFalsely : Prop := phasorTransformsRow.holds Tryd.pinned (OpenSpec.ofChange phasorTransformsWrong)

/-- 'substationlaw20.PhasorDelay': WHATEVER THE INPUT: true; the input reads as it did. -/
def phasorDelaySpec : ChangeSpec := { name := "phasorDelay", fn := fun _ => fun
  | [d1, d2, d3] => { results := [.lit (.bool true)], args := [d1, d2, d3] }
  | _ => none }
def phasorDelayRow : OpenClaim := { program := "ytjghifocfjbmcaadoor", sum := "81d72dd1074abd93ab599a1d619745b9df7adbc1db8b38532315657a75b660de", func := "substation/substationlaw20.PhasorDelay", spec := "phasorDelay", unfollowed := true, recurses := true, named := ["substation/cyclo.powers"], apart := false, laid := [("substation/cyclo.powers", laid_substation_cyclo_powers)] }
def PhasorDelaySaid : Prop := phasorDelayRow.holds Tryd.pinned (OpenSpec.ofChange phasorDelaySpec)

/-- ITS FALSE NEIGHBOUR: 'it returns false'. Refute it at one input. -/
def phasorDelayWrong : ChangeSpec := { name := "phasorDelay", fn := fun _ => fun
  | [d1, d2, d3] => { results := [.lit (.bool false)], args := [d1, d2, d3] }
  | _ => none }
def PhasorDelayWrongFalsely : Prop := phasorDelayRow.holds Tryd.pinned (OpenSpec.ofChange phasorDelayWrong)

/-- 'substationlaw20.PhasorLinear': WHATEVER THE INPUT: true; the input reads as it did. -/
def phasorLinearSpec : ChangeSpec := { name := "phasorLinear", fn := fun _ => fun
  | [d1, d2, d3] => { results := [.lit (.bool true)], args := [d1, d2, d3] }
  | _ => none }
def phasorLinearRow : OpenClaim := { program := "ytjghifocfjbmcaadoor", sum := "81d72dd1074abd93ab599a1d619745b9df7adbc1db8b38532315657a75b660de", func := "substation/substationlaw20.PhasorLinear", spec := "phasorLinear", unfollowed := true, recurses := true, named := ["substation/cyclo.powers"], apart := false, laid := [("substation/cyclo.powers", laid_substation_cyclo_powers)] }
def PhasorLinearSaid : Prop := phasorLinearRow.holds Tryd.pinned (OpenSpec.ofChange phasorLinearSpec)

/-- ITS FALSE NEIGHBOUR: 'it returns false'. Refute it at one input. -/
def phasorLinearWrong : ChangeSpec := { name := "phasorLinear", fn := fun _ => fun
  | [d1, d2, d3] => { results := [.lit (.bool false)], args := [d1, d2, d3] }
  | _ => none }
def PhasorLinearWrongFalsely : Prop := phasorLinearRow.holds Tryd.pinned (OpenSpec.ofChange phasorLinearWrong)

/-- 'substationlaw20.PhasorBacks': WHATEVER THE INPUT: true; the input reads as it did. -/
def phasorBacksSpec : ChangeSpec := { name := "phasorBacks", fn := fun _ => fun
  | [d] => { results := [.lit (.bool true)], args := [d] }
  | _ => none }
def phasorBacksRow : OpenClaim := { program := "ytjghifocfjbmcaadoor", sum := "81d72dd1074abd93ab599a1d619745b9df7adbc1db8b38532315657a75b660de", func := "substation/substationlaw20.PhasorBacks", spec := "phasorBacks", unfollowed := true, recurses := true, named := ["substation/cyclo.powers"], apart := false, laid := [("substation/cyclo.powers", laid_substation_cyclo_powers)] }
def PhasorBacksSaid : Prop := phasorBacksRow.holds Tryd.pinned (OpenSpec.ofChange phasorBacksSpec)

/-- ITS FALSE NEIGHBOUR: 'it returns false'. Refute it at one input. -/
def phasorBacksWrong : ChangeSpec := { name := "phasorBacks", fn := fun _ => fun
  | [d] => { results := [.lit (.bool false)], args := [d] }
  | _ => none }
def PhasorBacksWrongFalsely : Prop := phasorBacksRow.holds Tryd.pinned (OpenSpec.ofChange phasorBacksWrong)

/-- 'substationlaw20.PhasorParseval': WHATEVER THE INPUT: true; the input reads as it did. -/
def phasorParsevalSpec : ChangeSpec := { name := "phasorParseval", fn := fun _ => fun
  | [d] => { results := [.lit (.bool true)], args := [d] }
  | _ => none }
def phasorParsevalRow : OpenClaim := { program := "ytjghifocfjbmcaadoor", sum := "81d72dd1074abd93ab599a1d619745b9df7adbc1db8b38532315657a75b660de", func := "substation/substationlaw20.PhasorParseval", spec := "phasorParseval", unfollowed := true, recurses := true, named := ["substation/cyclo.powers"], apart := false, laid := [("substation/cyclo.powers", laid_substation_cyclo_powers)] }
def PhasorParsevalSaid : Prop := phasorParsevalRow.holds Tryd.pinned (OpenSpec.ofChange phasorParsevalSpec)

/-- ITS FALSE NEIGHBOUR: 'it returns false'. Refute it at one input. -/
def phasorParsevalWrong : ChangeSpec := { name := "phasorParseval", fn := fun _ => fun
  | [d] => { results := [.lit (.bool false)], args := [d] }
  | _ => none }
def PhasorParsevalWrongFalsely : Prop := phasorParsevalRow.holds Tryd.pinned (OpenSpec.ofChange phasorParsevalWrong)

/-- 'substationlaw20.PhasorInverse': WHATEVER THE INPUT: true; the input reads as it did. -/
def phasorInverseSpec : ChangeSpec := { name := "phasorInverse", fn := fun _ => fun
  | [d] => { results := [.lit (.bool true)], args := [d] }
  | _ => none }
def phasorInverseRow : OpenClaim := { program := "ytjghifocfjbmcaadoor", sum := "81d72dd1074abd93ab599a1d619745b9df7adbc1db8b38532315657a75b660de", func := "substation/substationlaw20.PhasorInverse", spec := "phasorInverse", unfollowed := true, recurses := true, named := ["substation/cyclo.powers"], apart := false, laid := [("substation/cyclo.powers", laid_substation_cyclo_powers)] }
def PhasorInverseSaid : Prop := phasorInverseRow.holds Tryd.pinned (OpenSpec.ofChange phasorInverseSpec)

/-- ITS FALSE NEIGHBOUR: 'it returns false'. Refute it at one input. -/
def phasorInverseWrong : ChangeSpec := { name := "phasorInverse", fn := fun _ => fun
  | [d] => { results := [.lit (.bool false)], args := [d] }
  | _ => none }
def PhasorInverseWrongFalsely : Prop := phasorInverseRow.holds Tryd.pinned (OpenSpec.ofChange phasorInverseWrong)

/- THE SECOND FORM. 'bulk': how many values and letters a reading holds, each counted each time it is reached (what is shared counts as often as it is met; a slice's spare places count too). A statement '..UptoSaid' is the law's where the arguments, and the package variables that the reading takes, are together of bulk at most 1048576: NARROWER than '..Said'. Prove '..Said' where nothing that the law and all that it calls make is longer than what came in: it says more and counts as full. Else prove '..UptoSaid'. A law counts once. -/
mutual
def uptoBulk {H : Type} : DataW H → Nat
  | .lit (.string bytes) => bytes.length + 1
  | .lit _ => 1
  | .nil => 1
  | .ptr d => uptoBulk d + 1
  | .slice elems spare => uptoBulkAll elems + uptoBulkAll spare + 1
  | .agg parts => uptoBulkAll parts + 1
  | .iface _ d => uptoBulk d + 1
  | .map entries => uptoBulkEntries entries + 1
  | .held _ => 1
def uptoBulkAll {H : Type} : List (DataW H) → Nat
  | [] => 0
  | d :: r => uptoBulk d + uptoBulkAll r
def uptoBulkEntries {H : Type} : List (Lit × DataW H) → Nat
  | [] => 0
  | x :: r => uptoBulkEntry x + uptoBulkEntries r
def uptoBulkEntry {H : Type} : Lit × DataW H → Nat
  | (.string bytes, d) => bytes.length + uptoBulk d + 1
  | (_, d) => uptoBulk d + 1
 end
def uptoSmall : (H : Type) → List (DataW H) → Bool := fun _ ds => decide (uptoBulkAll ds ≤ 1048576)
def OpenSpec.upto (s : _root_.Go.ChangeSpec) : _root_.Go.OpenSpec := { _root_.Go.OpenSpec.ofChange s with cond := some uptoSmall }

/-- 'substationlaw20.PhasorHalves', WHERE WHAT IT READS IS OF BULK AT MOST 1048576: true; the input reads as it did. -/
def phasorHalvesUptoRow : OpenClaim := { program := "ytjghifocfjbmcaadoor", sum := "81d72dd1074abd93ab599a1d619745b9df7adbc1db8b38532315657a75b660de", func := "substation/substationlaw20.PhasorHalves", spec := "phasorHalves", unfollowed := true, recurses := true, named := ["substation/cyclo.powers"], apart := false, laid := [("substation/cyclo.powers", laid_substation_cyclo_powers)], narrowed := true }
def PhasorHalvesUptoSaid : Prop := phasorHalvesUptoRow.holds Tryd.pinned (OpenSpec.upto phasorHalvesSpec)

/-- 'substationlaw20.PhasorTransforms', WHERE WHAT IT READS IS OF BULK AT MOST 1048576: true; the input reads as it did. -/
def phasorTransformsUptoRow : OpenClaim := { program := "ytjghifocfjbmcaadoor", sum := "81d72dd1074abd93ab599a1d619745b9df7adbc1db8b38532315657a75b660de", func := "substation/substationlaw20.PhasorTransforms", spec := "phasorTransforms", unfollowed := true, recurses := true, named := ["substation/cyclo.powers"], apart := false, laid := [("substation/cyclo.powers", laid_substation_cyclo_powers)], narrowed := true }
def PhasorTransformsUptoSaid : Prop := phasorTransformsUptoRow.holds Tryd.pinned (OpenSpec.upto phasorTransformsSpec)

/-- 'substationlaw20.PhasorDelay', WHERE WHAT IT READS IS OF BULK AT MOST 1048576: true; the input reads as it did. -/
def phasorDelayUptoRow : OpenClaim := { program := "ytjghifocfjbmcaadoor", sum := "81d72dd1074abd93ab599a1d619745b9df7adbc1db8b38532315657a75b660de", func := "substation/substationlaw20.PhasorDelay", spec := "phasorDelay", unfollowed := true, recurses := true, named := ["substation/cyclo.powers"], apart := false, laid := [("substation/cyclo.powers", laid_substation_cyclo_powers)], narrowed := true }
def PhasorDelayUptoSaid : Prop := phasorDelayUptoRow.holds Tryd.pinned (OpenSpec.upto phasorDelaySpec)

/-- 'substationlaw20.PhasorLinear', WHERE WHAT IT READS IS OF BULK AT MOST 1048576: true; the input reads as it did. -/
def phasorLinearUptoRow : OpenClaim := { program := "ytjghifocfjbmcaadoor", sum := "81d72dd1074abd93ab599a1d619745b9df7adbc1db8b38532315657a75b660de", func := "substation/substationlaw20.PhasorLinear", spec := "phasorLinear", unfollowed := true, recurses := true, named := ["substation/cyclo.powers"], apart := false, laid := [("substation/cyclo.powers", laid_substation_cyclo_powers)], narrowed := true }
def PhasorLinearUptoSaid : Prop := phasorLinearUptoRow.holds Tryd.pinned (OpenSpec.upto phasorLinearSpec)

/-- 'substationlaw20.PhasorBacks', WHERE WHAT IT READS IS OF BULK AT MOST 1048576: true; the input reads as it did. -/
def phasorBacksUptoRow : OpenClaim := { program := "ytjghifocfjbmcaadoor", sum := "81d72dd1074abd93ab599a1d619745b9df7adbc1db8b38532315657a75b660de", func := "substation/substationlaw20.PhasorBacks", spec := "phasorBacks", unfollowed := true, recurses := true, named := ["substation/cyclo.powers"], apart := false, laid := [("substation/cyclo.powers", laid_substation_cyclo_powers)], narrowed := true }
def PhasorBacksUptoSaid : Prop := phasorBacksUptoRow.holds Tryd.pinned (OpenSpec.upto phasorBacksSpec)

/-- 'substationlaw20.PhasorParseval', WHERE WHAT IT READS IS OF BULK AT MOST 1048576: true; the input reads as it did. -/
def phasorParsevalUptoRow : OpenClaim := { program := "ytjghifocfjbmcaadoor", sum := "81d72dd1074abd93ab599a1d619745b9df7adbc1db8b38532315657a75b660de", func := "substation/substationlaw20.PhasorParseval", spec := "phasorParseval", unfollowed := true, recurses := true, named := ["substation/cyclo.powers"], apart := false, laid := [("substation/cyclo.powers", laid_substation_cyclo_powers)], narrowed := true }
def PhasorParsevalUptoSaid : Prop := phasorParsevalUptoRow.holds Tryd.pinned (OpenSpec.upto phasorParsevalSpec)

/-- 'substationlaw20.PhasorInverse', WHERE WHAT IT READS IS OF BULK AT MOST 1048576: true; the input reads as it did. -/
def phasorInverseUptoRow : OpenClaim := { program := "ytjghifocfjbmcaadoor", sum := "81d72dd1074abd93ab599a1d619745b9df7adbc1db8b38532315657a75b660de", func := "substation/substationlaw20.PhasorInverse", spec := "phasorInverse", unfollowed := true, recurses := true, named := ["substation/cyclo.powers"], apart := false, laid := [("substation/cyclo.powers", laid_substation_cyclo_powers)], narrowed := true }
def PhasorInverseUptoSaid : Prop := phasorInverseUptoRow.holds Tryd.pinned (OpenSpec.upto phasorInverseSpec)

end Rows
end Go.Proofs.YtjghifocfjbmcaaDoor

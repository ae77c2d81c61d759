/-
  DERIVED. GIVEN WITH THE SEED: THE PROGRAM's TIES (one call each: nine closed facts by the kernel) AND EACH ROW's TIE, after the 31st guide's Derived/Test/Toyas{Tie, Card}.lean. No idea stands in it: it is a product of the set-up. Laid BY PROGRAM, IN A SANDBOX (cutbox-door.mjs). By AI agents, Wed Nov 11 2026. No macro, syntax, notation, axiom, sorry.
-/
import Derived.Test.YtjghifocfjbmcabDoorRows
import Derived.LaidByTextLater
import Derived.SevenTiedAt
import Derived.LaidSub
import Derived.LaidOnce
namespace Go.Proofs.YtjghifocfjbmcabDoor
open Go
set_option maxRecDepth 100000
theorem seatTie1 : Tryd.prog.laidByTextLater [("substation/cyclo.powers", Rows.laid_substation_cyclo_powers), ("substation/surd.signs", Rows.laid_substation_surd_signs)] [.data, .data] true :=
  Program.laidByTextLater_by_one 25 8 25 (by kernel_rfl) (by kernel_rfl) (by kernel_rfl) (by kernel_rfl) (by kernel_rfl) (by kernel_rfl) (fun _ _ => by kernel_rfl)
theorem noOwnUnsafe : Tryd.pinned.checked.prog.headLifts.contains "ownunsafe" = false := by kernel_rfl
theorem tie : Tryd.prog.laidByTextLater [("substation/surd.signs", Rows.laid_substation_surd_signs)] [.data] true :=
  Program.laidByTextLater.sub seatTie1 ["substation/surd.signs"] (by kernel_rfl) (by kernel_rfl)
theorem surdSigns_row_tie : Rows.surdSignsRow.laidByTextAt .later Tryd.pinned [.data] true :=
  OpenClaim.laidByTextAt_later rfl rfl tie noOwnUnsafe
theorem surdProducts_row_tie : Rows.surdProductsRow.laidByTextAt .later Tryd.pinned [.data] true :=
  OpenClaim.laidByTextAt_later rfl rfl tie noOwnUnsafe
theorem surdTotal_row_tie : Rows.surdTotalRow.laidByTextAt .later Tryd.pinned [.data] true :=
  OpenClaim.laidByTextAt_later rfl rfl tie noOwnUnsafe
theorem surdMultiplicative_row_tie : Rows.surdMultiplicativeRow.laidByTextAt .later Tryd.pinned [.data] true :=
  OpenClaim.laidByTextAt_later rfl rfl tie noOwnUnsafe
theorem surdSums_row_tie : Rows.surdSumsRow.laidByTextAt .later Tryd.pinned [.data] true :=
  OpenClaim.laidByTextAt_later rfl rfl tie noOwnUnsafe
theorem tie2 : Tryd.prog.laidByTextLater [("substation/cyclo.powers", Rows.laid_substation_cyclo_powers)] [.data] true :=
  Program.laidByTextLater.sub seatTie1 ["substation/cyclo.powers"] (by kernel_rfl) (by kernel_rfl)
theorem cycloSums_row_tie : Rows.cycloSumsRow.laidByTextAt .later Tryd.pinned [.data] true :=
  OpenClaim.laidByTextAt_later rfl rfl tie2 noOwnUnsafe
theorem tie3 : Tryd.prog.laidByTextLater [("substation/cyclo.powers", Rows.laid_substation_cyclo_powers), ("substation/surd.signs", Rows.laid_substation_surd_signs)] [.data, .data] true :=
  Program.laidByTextLater.sub seatTie1 ["substation/cyclo.powers", "substation/surd.signs"] (by kernel_rfl) (by kernel_rfl)
theorem cycloNorms_row_tie : Rows.cycloNormsRow.laidByTextAt .later Tryd.pinned [.data, .data] true :=
  OpenClaim.laidByTextAt_later rfl rfl tie3 noOwnUnsafe
theorem surdSignsUpto_row_tie : Rows.surdSignsUptoRow.laidByTextAt .later Tryd.pinned [.data] true :=
  OpenClaim.laidByTextAt_later rfl rfl tie noOwnUnsafe
theorem surdProductsUpto_row_tie : Rows.surdProductsUptoRow.laidByTextAt .later Tryd.pinned [.data] true :=
  OpenClaim.laidByTextAt_later rfl rfl tie noOwnUnsafe
theorem surdTotalUpto_row_tie : Rows.surdTotalUptoRow.laidByTextAt .later Tryd.pinned [.data] true :=
  OpenClaim.laidByTextAt_later rfl rfl tie noOwnUnsafe
theorem surdMultiplicativeUpto_row_tie : Rows.surdMultiplicativeUptoRow.laidByTextAt .later Tryd.pinned [.data] true :=
  OpenClaim.laidByTextAt_later rfl rfl tie noOwnUnsafe
theorem surdSumsUpto_row_tie : Rows.surdSumsUptoRow.laidByTextAt .later Tryd.pinned [.data] true :=
  OpenClaim.laidByTextAt_later rfl rfl tie noOwnUnsafe
theorem cycloSumsUpto_row_tie : Rows.cycloSumsUptoRow.laidByTextAt .later Tryd.pinned [.data] true :=
  OpenClaim.laidByTextAt_later rfl rfl tie2 noOwnUnsafe
theorem cycloNormsUpto_row_tie : Rows.cycloNormsUptoRow.laidByTextAt .later Tryd.pinned [.data, .data] true :=
  OpenClaim.laidByTextAt_later rfl rfl tie3 noOwnUnsafe
end Go.Proofs.YtjghifocfjbmcabDoor

/-
  DERIVED. GIVEN WITH THE SEED: THE PROGRAM's TIES (one call each: nine closed facts by the kernel) AND EACH ROW's TIE, after the 31st guide's Derived/Test/Toyas{Tie, Card}.lean. No idea stands in it: it is a product of the set-up. Laid BY PROGRAM, IN A SANDBOX (cutbox-door.mjs). By AI agents, Wed Nov 11 2026. No macro, syntax, notation, axiom, sorry.
-/
import Derived.Test.YtjghifocfjbmcacDoorRows
import Derived.LaidByTextLater
import Derived.SevenTiedAt
import Derived.LaidSub
import Derived.LaidOnce
namespace Go.Proofs.YtjghifocfjbmcacDoor
open Go
set_option maxRecDepth 100000
theorem seatTie1 : Tryd.prog.laidByTextLater [("substation/cyclo.powers", Rows.laid_substation_cyclo_powers), ("substation/surd.signs", Rows.laid_substation_surd_signs)] [.data, .data] true :=
  Program.laidByTextLater_by_one 25 8 25 (by kernel_rfl) (by kernel_rfl) (by kernel_rfl) (by kernel_rfl) (by kernel_rfl) (by kernel_rfl) (fun _ _ => by kernel_rfl)
theorem noOwnUnsafe : Tryd.pinned.checked.prog.headLifts.contains "ownunsafe" = false := by kernel_rfl
theorem tie : Tryd.prog.laidByTextLater [("substation/surd.signs", Rows.laid_substation_surd_signs)] [.data] true :=
  Program.laidByTextLater.sub seatTie1 ["substation/surd.signs"] (by kernel_rfl) (by kernel_rfl)
theorem surdOrder_row_tie : Rows.surdOrderRow.laidByTextAt .later Tryd.pinned [.data] true :=
  OpenClaim.laidByTextAt_later rfl rfl tie noOwnUnsafe
theorem surdVersus_row_tie : Rows.surdVersusRow.laidByTextAt .later Tryd.pinned [.data] true :=
  OpenClaim.laidByTextAt_later rfl rfl tie noOwnUnsafe
theorem tie2 : Tryd.prog.laidByTextLater [("substation/cyclo.powers", Rows.laid_substation_cyclo_powers), ("substation/surd.signs", Rows.laid_substation_surd_signs)] [.data, .data] true :=
  Program.laidByTextLater.sub seatTie1 ["substation/cyclo.powers", "substation/surd.signs"] (by kernel_rfl) (by kernel_rfl)
theorem phasorThresholds_row_tie : Rows.phasorThresholdsRow.laidByTextAt .later Tryd.pinned [.data, .data] true :=
  OpenClaim.laidByTextAt_later rfl rfl tie2 noOwnUnsafe
theorem phasorSizes_row_tie : Rows.phasorSizesRow.laidByTextAt .later Tryd.pinned [.data, .data] true :=
  OpenClaim.laidByTextAt_later rfl rfl tie2 noOwnUnsafe
theorem surdOrderUpto_row_tie : Rows.surdOrderUptoRow.laidByTextAt .later Tryd.pinned [.data] true :=
  OpenClaim.laidByTextAt_later rfl rfl tie noOwnUnsafe
theorem surdVersusUpto_row_tie : Rows.surdVersusUptoRow.laidByTextAt .later Tryd.pinned [.data] true :=
  OpenClaim.laidByTextAt_later rfl rfl tie noOwnUnsafe
theorem phasorThresholdsUpto_row_tie : Rows.phasorThresholdsUptoRow.laidByTextAt .later Tryd.pinned [.data, .data] true :=
  OpenClaim.laidByTextAt_later rfl rfl tie2 noOwnUnsafe
theorem phasorSizesUpto_row_tie : Rows.phasorSizesUptoRow.laidByTextAt .later Tryd.pinned [.data, .data] true :=
  OpenClaim.laidByTextAt_later rfl rfl tie2 noOwnUnsafe
end Go.Proofs.YtjghifocfjbmcacDoor

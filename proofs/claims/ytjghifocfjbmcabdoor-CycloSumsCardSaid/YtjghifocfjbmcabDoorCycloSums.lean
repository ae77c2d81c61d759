/- Add, Sub, Scale and Conj return the specified result or error for any arguments, and Root the specified power: the card of the law CycloSums holds; the laid variable powers reads as its initialiser says. -/
import Derived.Test.YtjghifocfjbmcabDoorCards
import Derived.Test.YtjghifocfjbmcabDoorTie
import Derived.Test.YtjghifocfjbmcabDoorCycloSumsPaths
import Derived.SevenTiedAt
import Derived.ProofKit
import Derived.KernelRfl
namespace Go.Proofs.YtjghifocfjbmcabDoor
open Go.Sym Go.RowKit Go.ChangeShapes Go.WideShapes

set_option maxRecDepth 100000 in
theorem cycloSums_lifted (os : Os) (started : os.Started) (H : Type) (enc : TypeId × Value → H) :
    ReturnsInHanded {} Tryd.checked os 8 .any (fun w args => (Rows.cycloSumsSpec.pre enc Tryd.prog Tryd.f8 [] false w args ∧ laidMetH Tryd.prog [("substation/cyclo.powers", Rows.laid_substation_cyclo_powers)] w) ∧ sizedMet enc Tryd.prog Tryd.f8 (OpenSpec.ofChange Rows.cycloSumsSpec) false w args)
      (Rows.cycloSumsSpec.post enc Tryd.prog Tryd.f8 false true false false) := by
  refine returnsInHanded_of_change_and (C := Tryd.checked) (X := fun w _ => laidMetH Tryd.prog [("substation/cyclo.powers", Rows.laid_substation_cyclo_powers)] w) (fun _ _ _ hh h => h.of_heap hh) (by kernel_rfl) started (by kernel_rfl) Tryd.func8
    (ChangeSpec.witness_shaped (enc := enc) (C := Tryd.checked) (os := os) (X := fun w _ => laidMetH Tryd.prog [("substation/cyclo.powers", Rows.laid_substation_cyclo_powers)] w) false (World.doorLaid Tryd.prog 400 os) #[.agg #[.int .i64 0, .int .i64 0, .int .i64 0, .int .i64 0], .agg #[.int .i64 0, .int .i64 0, .int .i64 0, .int .i64 0], .int .i64 0] 8 rfl (World.shaped_of_RefB (by kernel_rfl) (by kernel_rfl)) (by kernel_rfl) (by kernel_rfl) (by kernel_rfl)
      (laidMetH_of_parts3 (fuel := 8) (laidMet_of_run' 8 (by kernel_rfl) (by kernel_rfl)) (by kernel_rfl) (by kernel_rfl))) ?_
  intro W base args ds gs before hval hW hc hw hL _
  exact law_calls (sas := f8A) (l := List.replicate 9 .i64) (tb := 4) 8 symG [[1, 0, 0, 0, 0, 1, 0, 0, 0, 0, 1, 0, 0, 0, 0, 1, -1, 0, 1, 0, 0, -1, 0, 1]] symX f8M.tree f8Ok (by kernel_rfl) (by kernel_rfl) (by kernel_rfl) (by kernel_rfl) Tryd.underlying4 rfl
    (fun ds h => by
      match ds, h with
      | [_, _, _], _ => rfl)
    (by kernel_rfl) (by kernel_rfl) (by kernel_rfl) (by kernel_rfl) (by kernel_rfl) W base args ds gs before hval hW hc hw hL

theorem cycloSums_holds : Rows.CycloSumsSaid :=
  OpenClaim.holds_of_wide 8 Tryd.f8 rfl rfl rfl rfl rfl rfl rfl ⟨rfl, rfl, rfl, rfl, rfl⟩ rfl rfl rfl rfl rfl (by kernel_rfl) Tryd.func8 (by kernel_rfl)
    (of_decide_eq_true (by kernel_rfl)) (by unfold Func.isWrapper; rw [if_neg (of_decide_eq_false (by kernel_rfl))]; exact ⟨rfl, rfl⟩)
    (fun os started H enc _ => cycloSums_lifted os started H enc)

theorem cycloSums_card_holds : Rows.CycloSumsCardSaid :=
  Claim7.holds_tied_plain_at .later [] [.data] true (true, "217c9a1525f4ddf3af1fa383a1b46bd7e407405eef8e20ecc8febc2b84114677") false
    cycloSums_holds (fun _ h => by cases h) (by kernel_rfl) (fun _ h => by cases h) cycloSums_row_tie rfl ⟨rfl, rfl⟩ (by kernel_rfl) rfl
    (fun f fn hf hfn => by
      obtain rfl : f = 8 := Option.some.inj ((show Tryd.prog.funcNamed Rows.cycloSumsRow.func = some 8 by kernel_rfl).symm.trans hf) |>.symm
      obtain rfl : fn = Tryd.f8 := (Option.some.inj (Tryd.func8.symm.trans hfn)).symm
      exact ⟨by kernel_rfl, fun j t ht => by
        rw [Tryd.params8] at ht
        have hm : t ∈ [40, 40, 3] := by simpa using Array.mem_of_getElem? ht
        have hall : ([40, 40, 3].all fun u => !Tryd.prog.wantsStandIn u) = true := by kernel_rfl
        exact (show Tryd.prog.wantsStandIn t = false by simpa using List.all_eq_true.1 hall t hm)⟩)
    (by kernel_rfl)
#print axioms cycloSums_card_holds
end Go.Proofs.YtjghifocfjbmcabDoor

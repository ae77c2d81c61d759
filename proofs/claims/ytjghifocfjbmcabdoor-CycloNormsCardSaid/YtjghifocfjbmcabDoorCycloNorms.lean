/- Norm is multiplicative, is never negative, is zero only for zero, is not changed by a rotation, and is the real number x times its conjugate: the card of the law CycloNorms holds; the laid variables powers and signs read as their initialisers say. -/
import Derived.Test.YtjghifocfjbmcabDoorCards
import Derived.Test.YtjghifocfjbmcabDoorTie
import Derived.Test.YtjghifocfjbmcabDoorCycloNormsPaths
import Derived.SevenTiedAt
import Derived.ProofKit
import Derived.KernelRfl
namespace Go.Proofs.YtjghifocfjbmcabDoor
open Go.Sym Go.RowKit Go.ChangeShapes Go.WideShapes

theorem cycloNorms_lifted (os : Os) (started : os.Started) (H : Type) (enc : TypeId × Value → H) :
    ReturnsInHanded {} Tryd.checked os 9 .any (fun w args => (Rows.cycloNormsSpec.pre enc Tryd.prog Tryd.f9 [] false w args ∧ laidMetH Tryd.prog [("substation/cyclo.powers", Rows.laid_substation_cyclo_powers), ("substation/surd.signs", Rows.laid_substation_surd_signs)] w) ∧ sizedMet enc Tryd.prog Tryd.f9 (OpenSpec.ofChange Rows.cycloNormsSpec) false w args)
      (Rows.cycloNormsSpec.post enc Tryd.prog Tryd.f9 false true false false) := by
  refine returnsInHanded_of_change_and (C := Tryd.checked) (X := fun w _ => laidMetH Tryd.prog [("substation/cyclo.powers", Rows.laid_substation_cyclo_powers), ("substation/surd.signs", Rows.laid_substation_surd_signs)] w) (fun _ _ _ hh h => h.of_heap hh) (by kernel_rfl) started (by kernel_rfl) Tryd.func9
    (ChangeSpec.witness_shaped (enc := enc) (C := Tryd.checked) (os := os) (X := fun w _ => laidMetH Tryd.prog [("substation/cyclo.powers", Rows.laid_substation_cyclo_powers), ("substation/surd.signs", Rows.laid_substation_surd_signs)] w) false (World.doorLaid Tryd.prog 400 os) #[.agg #[.int .i64 0, .int .i64 0, .int .i64 0, .int .i64 0], .agg #[.int .i64 0, .int .i64 0, .int .i64 0, .int .i64 0], .int .i64 0] 8 rfl (World.shaped_of_RefB (by kernel_rfl) (by kernel_rfl)) (by kernel_rfl) (by kernel_rfl) (by kernel_rfl)
      (laidMetH_of_parts3 (fuel := 8) (laidMet_of_run' 8 (by kernel_rfl) (by kernel_rfl)) (by kernel_rfl) (by kernel_rfl))) ?_
  intro W base args ds gs before hval hW hc hw hL _
  exact law_calls (sas := f9A) (l := List.replicate 9 .i64) (tb := 4) 8 symG [[1, 0, 0, 0, 0, 1, 0, 0, 0, 0, 1, 0, 0, 0, 0, 1, -1, 0, 1, 0, 0, -1, 0, 1], [-1, -1, 2, -1, 0, 1, 2, 1, 1]] symX (.leaf (.bool true)) f9Law (by kernel_rfl) (by kernel_rfl) (by kernel_rfl) (by kernel_rfl) Tryd.underlying4 rfl
    (fun ds h => by
      match ds, h with
      | [_, _, _], _ => rfl)
    (by kernel_rfl) (by kernel_rfl) (by kernel_rfl) (by kernel_rfl) (by kernel_rfl) W base args ds gs before hval hW hc hw hL

theorem cycloNorms_holds : Rows.CycloNormsSaid :=
  OpenClaim.holds_of_wide 9 Tryd.f9 rfl rfl rfl rfl rfl rfl rfl ⟨rfl, rfl, rfl, rfl, rfl⟩ rfl rfl rfl rfl rfl (by kernel_rfl) Tryd.func9 (by kernel_rfl)
    (of_decide_eq_true (by kernel_rfl)) (by unfold Func.isWrapper; rw [if_neg (of_decide_eq_false (by kernel_rfl))]; exact ⟨rfl, rfl⟩)
    (fun os started H enc _ => cycloNorms_lifted os started H enc)

theorem cycloNorms_card_holds : Rows.CycloNormsCardSaid :=
  Claim7.holds_tied_plain_at .later [] [.data, .data] true (true, "217c9a1525f4ddf3af1fa383a1b46bd7e407405eef8e20ecc8febc2b84114677") false
    cycloNorms_holds (fun _ h => by cases h) (by kernel_rfl) (fun _ h => by cases h) cycloNorms_row_tie rfl ⟨rfl, rfl⟩ (by kernel_rfl) rfl
    (fun f fn hf hfn => by
      obtain rfl : f = 9 := Option.some.inj ((show Tryd.prog.funcNamed Rows.cycloNormsRow.func = some 9 by kernel_rfl).symm.trans hf) |>.symm
      obtain rfl : fn = Tryd.f9 := (Option.some.inj (Tryd.func9.symm.trans hfn)).symm
      exact ⟨by kernel_rfl, fun j t ht => by
        rw [Tryd.params9] at ht
        have hm : t ∈ [40, 40, 3] := by simpa using Array.mem_of_getElem? ht
        have hall : ([40, 40, 3].all fun u => !Tryd.prog.wantsStandIn u) = true := by kernel_rfl
        exact (show Tryd.prog.wantsStandIn t = false by simpa using List.all_eq_true.1 hall t hm)⟩)
    (by kernel_rfl)
#print axioms cycloNorms_card_holds
end Go.Proofs.YtjghifocfjbmcabDoor

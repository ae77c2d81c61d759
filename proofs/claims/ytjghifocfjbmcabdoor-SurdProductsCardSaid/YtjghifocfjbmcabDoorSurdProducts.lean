/- Mul and Norm return the specified result or error for any arguments: the card of the law SurdProducts holds; the laid variable signs reads as its initialiser says. -/
import Derived.Test.YtjghifocfjbmcabDoorCards
import Derived.Test.YtjghifocfjbmcabDoorTie
import Derived.Test.YtjghifocfjbmcabDoorSurdProductsPaths
import Derived.SevenTiedAt
import Derived.ProofKit
import Derived.KernelRfl
namespace Go.Proofs.YtjghifocfjbmcabDoor
open Go.Sym Go.RowKit Go.ChangeShapes Go.WideShapes

theorem surdProducts_lifted (os : Os) (started : os.Started) (H : Type) (enc : TypeId × Value → H) :
    ReturnsInHanded {} Tryd.checked os 4 .any (fun w args => (Rows.surdProductsSpec.pre enc Tryd.prog Tryd.f4 [] false w args ∧ laidMetH Tryd.prog [("substation/surd.signs", Rows.laid_substation_surd_signs)] w) ∧ sizedMet enc Tryd.prog Tryd.f4 (OpenSpec.ofChange Rows.surdProductsSpec) false w args)
      (Rows.surdProductsSpec.post enc Tryd.prog Tryd.f4 false true false false) := by
  refine returnsInHanded_of_change_and (C := Tryd.checked) (X := fun w _ => laidMetH Tryd.prog [("substation/surd.signs", Rows.laid_substation_surd_signs)] w) (fun _ _ _ hh h => h.of_heap hh) (by kernel_rfl) started (by kernel_rfl) Tryd.func4
    (ChangeSpec.witness_shaped (enc := enc) (C := Tryd.checked) (os := os) (X := fun w _ => laidMetH Tryd.prog [("substation/surd.signs", Rows.laid_substation_surd_signs)] w) false (World.doorLaid Tryd.prog 400 os) #[.agg #[.int .i64 0, .int .i64 0], .agg #[.int .i64 0, .int .i64 0]] 8 rfl (World.shaped_of_RefB (by kernel_rfl) (by kernel_rfl)) (by kernel_rfl) (by kernel_rfl) (by kernel_rfl)
      (laidMetH_of_parts3 (fuel := 8) (laidMet_of_run' 8 (by kernel_rfl) (by kernel_rfl)) (by kernel_rfl) (by kernel_rfl))) ?_
  intro W base args ds gs before hval hW hc hw hL _
  exact law_calls (sas := f4A) (l := List.replicate 4 .i64) (tb := 4) 8 symG [[-1, -1, 2, -1, 0, 1, 2, 1, 1]] symX f4M.tree f4Ok (by kernel_rfl) (by kernel_rfl) (by kernel_rfl) (by kernel_rfl) Tryd.underlying4 rfl
    (fun ds h => by
      match ds, h with
      | [_, _], _ => rfl)
    (by kernel_rfl) (by kernel_rfl) (by kernel_rfl) (by kernel_rfl) (by kernel_rfl) W base args ds gs before hval hW hc hw hL

theorem surdProducts_holds : Rows.SurdProductsSaid :=
  OpenClaim.holds_of_wide 4 Tryd.f4 rfl rfl rfl rfl rfl rfl rfl ⟨rfl, rfl, rfl, rfl, rfl⟩ rfl rfl rfl rfl rfl (by kernel_rfl) Tryd.func4 (by kernel_rfl)
    (of_decide_eq_true (by kernel_rfl)) (by unfold Func.isWrapper; rw [if_neg (of_decide_eq_false (by kernel_rfl))]; exact ⟨rfl, rfl⟩)
    (fun os started H enc _ => surdProducts_lifted os started H enc)

theorem surdProducts_card_holds : Rows.SurdProductsCardSaid :=
  Claim7.holds_tied_plain_at .later [] [.data] true (true, "217c9a1525f4ddf3af1fa383a1b46bd7e407405eef8e20ecc8febc2b84114677") false
    surdProducts_holds (fun _ h => by cases h) (by kernel_rfl) (fun _ h => by cases h) surdProducts_row_tie rfl ⟨rfl, rfl⟩ (by kernel_rfl) rfl
    (fun f fn hf hfn => by
      obtain rfl : f = 4 := Option.some.inj ((show Tryd.prog.funcNamed Rows.surdProductsRow.func = some 4 by kernel_rfl).symm.trans hf) |>.symm
      obtain rfl : fn = Tryd.f4 := (Option.some.inj (Tryd.func4.symm.trans hfn)).symm
      exact ⟨by kernel_rfl, fun j t ht => by
        rw [Tryd.params4] at ht
        have hm : t ∈ [23, 23] := by simpa using Array.mem_of_getElem? ht
        have hall : ([23, 23].all fun u => !Tryd.prog.wantsStandIn u) = true := by kernel_rfl
        exact (show Tryd.prog.wantsStandIn t = false by simpa using List.all_eq_true.1 hall t hm)⟩)
    (by kernel_rfl)
#print axioms surdProducts_card_holds
end Go.Proofs.YtjghifocfjbmcabDoor

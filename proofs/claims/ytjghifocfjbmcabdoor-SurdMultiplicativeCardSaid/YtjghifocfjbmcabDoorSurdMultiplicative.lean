/- The sign of a product is the product of the signs, Norm is multiplicative, and Norm is the product with the conjugate: the card of the law SurdMultiplicative holds; the laid variable signs reads as its initialiser says. -/
import Derived.Test.YtjghifocfjbmcabDoorCards
import Derived.Test.YtjghifocfjbmcabDoorTie
import Derived.Test.YtjghifocfjbmcabDoorSurdMultiplicativePaths
import Derived.SevenTiedAt
import Derived.ProofKit
import Derived.KernelRfl
namespace Go.Proofs.YtjghifocfjbmcabDoor
open Go.Sym Go.RowKit Go.ChangeShapes Go.WideShapes

theorem surdMultiplicative_lifted (os : Os) (started : os.Started) (H : Type) (enc : TypeId × Value → H) :
    ReturnsInHanded {} Tryd.checked os 6 .any (fun w args => (Rows.surdMultiplicativeSpec.pre enc Tryd.prog Tryd.f6 [] false w args ∧ laidMetH Tryd.prog [("substation/surd.signs", Rows.laid_substation_surd_signs)] w) ∧ sizedMet enc Tryd.prog Tryd.f6 (OpenSpec.ofChange Rows.surdMultiplicativeSpec) false w args)
      (Rows.surdMultiplicativeSpec.post enc Tryd.prog Tryd.f6 false true false false) := by
  refine returnsInHanded_of_change_and (C := Tryd.checked) (X := fun w _ => laidMetH Tryd.prog [("substation/surd.signs", Rows.laid_substation_surd_signs)] w) (fun _ _ _ hh h => h.of_heap hh) (by kernel_rfl) started (by kernel_rfl) Tryd.func6
    (ChangeSpec.witness_shaped (enc := enc) (C := Tryd.checked) (os := os) (X := fun w _ => laidMetH Tryd.prog [("substation/surd.signs", Rows.laid_substation_surd_signs)] w) false (World.doorLaid Tryd.prog 400 os) #[.agg #[.int .i64 0, .int .i64 0], .agg #[.int .i64 0, .int .i64 0]] 8 rfl (World.shaped_of_RefB (by kernel_rfl) (by kernel_rfl)) (by kernel_rfl) (by kernel_rfl) (by kernel_rfl)
      (laidMetH_of_parts3 (fuel := 8) (laidMet_of_run' 8 (by kernel_rfl) (by kernel_rfl)) (by kernel_rfl) (by kernel_rfl))) ?_
  intro W base args ds gs before hval hW hc hw hL _
  exact law_calls (sas := f6A) (l := List.replicate 4 .i64) (tb := 4) 8 symG [[-1, -1, 2, -1, 0, 1, 2, 1, 1]] symX (.leaf (.bool true)) f6Law (by kernel_rfl) (by kernel_rfl) (by kernel_rfl) (by kernel_rfl) Tryd.underlying4 rfl
    (fun ds h => by
      match ds, h with
      | [_, _], _ => rfl)
    (by kernel_rfl) (by kernel_rfl) (by kernel_rfl) (by kernel_rfl) (by kernel_rfl) W base args ds gs before hval hW hc hw hL

theorem surdMultiplicative_holds : Rows.SurdMultiplicativeSaid :=
  OpenClaim.holds_of_wide 6 Tryd.f6 rfl rfl rfl rfl rfl rfl rfl ⟨rfl, rfl, rfl, rfl, rfl⟩ rfl rfl rfl rfl rfl (by kernel_rfl) Tryd.func6 (by kernel_rfl)
    (of_decide_eq_true (by kernel_rfl)) (by unfold Func.isWrapper; rw [if_neg (of_decide_eq_false (by kernel_rfl))]; exact ⟨rfl, rfl⟩)
    (fun os started H enc _ => surdMultiplicative_lifted os started H enc)

theorem surdMultiplicative_card_holds : Rows.SurdMultiplicativeCardSaid :=
  Claim7.holds_tied_plain_at .later [] [.data] true (true, "217c9a1525f4ddf3af1fa383a1b46bd7e407405eef8e20ecc8febc2b84114677") false
    surdMultiplicative_holds (fun _ h => by cases h) (by kernel_rfl) (fun _ h => by cases h) surdMultiplicative_row_tie rfl ⟨rfl, rfl⟩ (by kernel_rfl) rfl
    (fun f fn hf hfn => by
      obtain rfl : f = 6 := Option.some.inj ((show Tryd.prog.funcNamed Rows.surdMultiplicativeRow.func = some 6 by kernel_rfl).symm.trans hf) |>.symm
      obtain rfl : fn = Tryd.f6 := (Option.some.inj (Tryd.func6.symm.trans hfn)).symm
      exact ⟨by kernel_rfl, fun j t ht => by
        rw [Tryd.params6] at ht
        have hm : t ∈ [23, 23] := by simpa using Array.mem_of_getElem? ht
        have hall : ([23, 23].all fun u => !Tryd.prog.wantsStandIn u) = true := by kernel_rfl
        exact (show Tryd.prog.wantsStandIn t = false by simpa using List.all_eq_true.1 hall t hm)⟩)
    (by kernel_rfl)
#print axioms surdMultiplicative_card_holds
end Go.Proofs.YtjghifocfjbmcabDoor

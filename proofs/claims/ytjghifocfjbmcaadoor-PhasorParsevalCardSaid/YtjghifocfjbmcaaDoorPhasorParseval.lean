/- The squared magnitudes of all harmonics add up to 12 times the energy, and harmonic 12 - h is the conjugate of harmonic h: the card of the law PhasorParseval holds; the laid variable powers reads as its initialiser says. -/
import Derived.Test.YtjghifocfjbmcaaDoorCards
import Derived.Test.YtjghifocfjbmcaaDoorTie
import Derived.Test.YtjghifocfjbmcaaDoorPhasorParsevalPaths
import Derived.SevenTiedAt
import Derived.ProofKit
import Derived.KernelRfl
namespace Go.Proofs.YtjghifocfjbmcaaDoor
open Go.Sym Go.RowKit Go.ChangeShapes Go.WideShapes

theorem phasorParseval_lifted (os : Os) (started : os.Started) (H : Type) (enc : TypeId × Value → H) :
    ReturnsInHanded {} Tryd.checked os 8 .any (fun w args => (Rows.phasorParsevalSpec.pre enc Tryd.prog Tryd.f8 [] false w args ∧ laidMetH Tryd.prog [("substation/cyclo.powers", Rows.laid_substation_cyclo_powers)] w) ∧ sizedMet enc Tryd.prog Tryd.f8 (OpenSpec.ofChange Rows.phasorParsevalSpec) false w args)
      (Rows.phasorParsevalSpec.post enc Tryd.prog Tryd.f8 false true false false) := by
  refine returnsInHanded_of_change_and (C := Tryd.checked) (X := fun w _ => laidMetH Tryd.prog [("substation/cyclo.powers", Rows.laid_substation_cyclo_powers)] w) (fun _ _ _ hh h => h.of_heap hh) (by kernel_rfl) started (by kernel_rfl) Tryd.func8
    (ChangeSpec.witness_shaped (enc := enc) (C := Tryd.checked) (os := os) (X := fun w _ => laidMetH Tryd.prog [("substation/cyclo.powers", Rows.laid_substation_cyclo_powers)] w) false (World.doorLaid Tryd.prog 400 os) #[.agg #[.int .i64 0, .int .i64 0, .int .i64 0, .int .i64 0, .int .i64 0, .int .i64 0, .int .i64 0, .int .i64 0, .int .i64 0, .int .i64 0, .int .i64 0, .int .i64 0]] 8 rfl (World.shaped_of_RefB (by kernel_rfl) (by kernel_rfl)) (by kernel_rfl) (by kernel_rfl) (by kernel_rfl)
      (laidMetH_of_parts3 (fuel := 8) (laidMet_of_run' 8 (by kernel_rfl) (by kernel_rfl)) (by kernel_rfl) (by kernel_rfl))) ?_
  intro W base args ds gs before hval hW hc hw hL _
  exact law_calls (sas := f8A) (l := List.replicate 12 .i64) (tb := 4) 8 symG [[1, 0, 0, 0, 0, 1, 0, 0, 0, 0, 1, 0, 0, 0, 0, 1, -1, 0, 1, 0, 0, -1, 0, 1]] symX f8M.tree f8Ok (by kernel_rfl) (by kernel_rfl) (by kernel_rfl) (by kernel_rfl) Tryd.underlying4 rfl
    (fun ds h => by
      match ds, h with
      | [_], _ => rfl)
    (by kernel_rfl) (by kernel_rfl) (by kernel_rfl) (by kernel_rfl) W base args ds gs before hval hW hc hw hL

theorem phasorParseval_holds : Rows.PhasorParsevalSaid :=
  OpenClaim.holds_of_wide 8 Tryd.f8 rfl rfl rfl rfl rfl rfl rfl ⟨rfl, rfl, rfl, rfl, rfl⟩ rfl rfl rfl rfl rfl (by kernel_rfl) Tryd.func8 (by kernel_rfl)
    (of_decide_eq_true (by kernel_rfl)) (by unfold Func.isWrapper; rw [if_neg (of_decide_eq_false (by kernel_rfl))]; exact ⟨rfl, rfl⟩)
    (fun os started H enc _ => phasorParseval_lifted os started H enc)

theorem phasorParseval_card_holds : Rows.PhasorParsevalCardSaid :=
  Claim7.holds_tied_plain_at .later [] [.data] true (true, "6a380e805b1c7d568ac3e4cdf44bfbc5aefd4091de917495ef757b1c70711dff") false
    phasorParseval_holds (fun _ h => by cases h) (by kernel_rfl) (fun _ h => by cases h) phasorParseval_row_tie rfl ⟨rfl, rfl⟩ (by kernel_rfl) rfl
    (fun f fn hf hfn => by
      obtain rfl : f = 8 := Option.some.inj ((show Tryd.prog.funcNamed Rows.phasorParsevalRow.func = some 8 by kernel_rfl).symm.trans hf) |>.symm
      obtain rfl : fn = Tryd.f8 := (Option.some.inj (Tryd.func8.symm.trans hfn)).symm
      exact ⟨by kernel_rfl, fun j t ht => by
        rw [Tryd.params8] at ht
        have hm : t ∈ [39] := by simpa using Array.mem_of_getElem? ht
        have hall : ([39].all fun u => !Tryd.prog.wantsStandIn u) = true := by kernel_rfl
        exact (show Tryd.prog.wantsStandIn t = false by simpa using List.all_eq_true.1 hall t hm)⟩)
    (by kernel_rfl)
#print axioms phasorParseval_card_holds
end Go.Proofs.YtjghifocfjbmcaaDoor

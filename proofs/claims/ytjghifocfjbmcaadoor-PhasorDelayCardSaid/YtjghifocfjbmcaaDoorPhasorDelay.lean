/- Delaying a window by j instants, cyclically, turns harmonic h by -j * h: the card of the law PhasorDelay holds; the laid variable powers reads as its initialiser says. -/
import Derived.Test.YtjghifocfjbmcaaDoorCards
import Derived.Test.YtjghifocfjbmcaaDoorTie
import Derived.Test.YtjghifocfjbmcaaDoorPhasorDelayPaths
import Derived.SevenTiedAt
import Derived.ProofKit
import Derived.KernelRfl
namespace Go.Proofs.YtjghifocfjbmcaaDoor
open Go.Sym Go.RowKit Go.ChangeShapes Go.WideShapes

theorem phasorDelay_lifted (os : Os) (started : os.Started) (H : Type) (enc : TypeId × Value → H) :
    ReturnsInHanded {} Tryd.checked os 5 .any (fun w args => (Rows.phasorDelaySpec.pre enc Tryd.prog Tryd.f5 [] false w args ∧ laidMetH Tryd.prog [("substation/cyclo.powers", Rows.laid_substation_cyclo_powers)] w) ∧ sizedMet enc Tryd.prog Tryd.f5 (OpenSpec.ofChange Rows.phasorDelaySpec) false w args)
      (Rows.phasorDelaySpec.post enc Tryd.prog Tryd.f5 false true false false) := by
  refine returnsInHanded_of_change_and (C := Tryd.checked) (X := fun w _ => laidMetH Tryd.prog [("substation/cyclo.powers", Rows.laid_substation_cyclo_powers)] w) (fun _ _ _ hh h => h.of_heap hh) (by kernel_rfl) started (by kernel_rfl) Tryd.func5
    (ChangeSpec.witness_shaped (enc := enc) (C := Tryd.checked) (os := os) (X := fun w _ => laidMetH Tryd.prog [("substation/cyclo.powers", Rows.laid_substation_cyclo_powers)] w) false (World.doorLaid Tryd.prog 400 os) #[.agg #[.int .i64 0, .int .i64 0, .int .i64 0, .int .i64 0, .int .i64 0, .int .i64 0, .int .i64 0, .int .i64 0, .int .i64 0, .int .i64 0, .int .i64 0, .int .i64 0], .int .i64 0, .int .i64 0] 8 rfl (World.shaped_of_RefB (by kernel_rfl) (by kernel_rfl)) (by kernel_rfl) (by kernel_rfl) (by kernel_rfl)
      (laidMetH_of_parts3 (fuel := 8) (laidMet_of_run' 8 (by kernel_rfl) (by kernel_rfl)) (by kernel_rfl) (by kernel_rfl))) ?_
  intro W base args ds gs before hval hW hc hw hL _
  exact law_calls (sas := f5A) (l := List.replicate 14 .i64) (tb := 4) 8 symG [[1, 0, 0, 0, 0, 1, 0, 0, 0, 0, 1, 0, 0, 0, 0, 1, -1, 0, 1, 0, 0, -1, 0, 1]] symX f5M.tree f5Ok (by kernel_rfl) (by kernel_rfl) (by kernel_rfl) (by kernel_rfl) Tryd.underlying4 rfl
    (fun ds h => by
      match ds, h with
      | [_, _, _], _ => rfl)
    (by kernel_rfl) (by kernel_rfl) (by kernel_rfl) (by kernel_rfl) (by kernel_rfl) W base args ds gs before hval hW hc hw hL

theorem phasorDelay_holds : Rows.PhasorDelaySaid :=
  OpenClaim.holds_of_wide 5 Tryd.f5 rfl rfl rfl rfl rfl rfl rfl ⟨rfl, rfl, rfl, rfl, rfl⟩ rfl rfl rfl rfl rfl (by kernel_rfl) Tryd.func5 (by kernel_rfl)
    (of_decide_eq_true (by kernel_rfl)) (by unfold Func.isWrapper; rw [if_neg (of_decide_eq_false (by kernel_rfl))]; exact ⟨rfl, rfl⟩)
    (fun os started H enc _ => phasorDelay_lifted os started H enc)

theorem phasorDelay_card_holds : Rows.PhasorDelayCardSaid :=
  Claim7.holds_tied_plain_at .later [] [.data] true (true, "6a380e805b1c7d568ac3e4cdf44bfbc5aefd4091de917495ef757b1c70711dff") false
    phasorDelay_holds (fun _ h => by cases h) (by kernel_rfl) (fun _ h => by cases h) phasorDelay_row_tie rfl ⟨rfl, rfl⟩ (by kernel_rfl) rfl
    (fun f fn hf hfn => by
      obtain rfl : f = 5 := Option.some.inj ((show Tryd.prog.funcNamed Rows.phasorDelayRow.func = some 5 by kernel_rfl).symm.trans hf) |>.symm
      obtain rfl : fn = Tryd.f5 := (Option.some.inj (Tryd.func5.symm.trans hfn)).symm
      exact ⟨by kernel_rfl, fun j t ht => by
        rw [Tryd.params5] at ht
        have hm : t ∈ [39, 3, 3] := by simpa using Array.mem_of_getElem? ht
        have hall : ([39, 3, 3].all fun u => !Tryd.prog.wantsStandIn u) = true := by kernel_rfl
        exact (show Tryd.prog.wantsStandIn t = false by simpa using List.all_eq_true.1 hall t hm)⟩)
    (by kernel_rfl)
#print axioms phasorDelay_card_holds
end Go.Proofs.YtjghifocfjbmcaaDoor

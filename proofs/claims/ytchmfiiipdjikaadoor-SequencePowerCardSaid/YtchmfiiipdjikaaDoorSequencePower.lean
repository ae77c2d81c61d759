/- SequencePower answers true for every input. -/
import Derived.Test.YtchmfiiipdjikaaDoorCards
import Derived.Test.YtchmfiiipdjikaaDoorTie
import Derived.Test.YtchmfiiipdjikaaDoorSym14
import Derived.SevenTiedAt
import Derived.ProofKit
import Derived.KernelRfl
namespace Go.Proofs.YtchmfiiipdjikaaDoor
open Go.Sym Go.RowKit Go.ChangeShapes Go.WideShapes

noncomputable def sequencePowerArgs : List SV := [.agg [.int .i64 [([.var 0], 1)], .int .i64 [([.var 1], 1)], .int .i64 [([.var 2], 1)], .int .i64 [([.var 3], 1)], .int .i64 [([.var 4], 1)], .int .i64 [([.var 5], 1)], .int .i64 [([.var 6], 1)], .int .i64 [([.var 7], 1)], .int .i64 [([.var 8], 1)], .int .i64 [([.var 9], 1)], .int .i64 [([.var 10], 1)], .int .i64 [([.var 11], 1)]]]
noncomputable def sequencePowerX : List (List SV) := [[.int .i64 [([], 1)], .int .i64 [], .int .i64 [], .int .i64 [], .int .i64 [], .int .i64 [([], 1)], .int .i64 [], .int .i64 [], .int .i64 [], .int .i64 [], .int .i64 [([], 1)], .int .i64 [], .int .i64 [], .int .i64 [], .int .i64 [], .int .i64 [([], 1)], .int .i64 [([], -1)], .int .i64 [], .int .i64 [([], 1)], .int .i64 [], .int .i64 [], .int .i64 [([], -1)], .int .i64 [], .int .i64 [([], 1)]]]
theorem sequencePower_paths : explore Tryd.prog (xOf sequencePowerX) (gxOf [0]) 10000 15 sequencePowerArgs 5 (facts0 [IntKind.i64, IntKind.i64, IntKind.i64, IntKind.i64, IntKind.i64, IntKind.i64, IntKind.i64, IntKind.i64, IntKind.i64, IntKind.i64, IntKind.i64, IntKind.i64]) = true := by kernel_rfl

theorem sequencePower_lifted (os : Os) (started : os.Started) (H : Type) (enc : TypeId × Value → H) :
    ReturnsInHanded {} Tryd.checked os 15 .any (fun w args => (Rows.sequencePowerSpec.pre enc Tryd.prog Tryd.f15 [] false w args ∧ laidMetH Tryd.prog [("substation/cyclo.powers", Rows.laid_substation_cyclo_powers)] w) ∧ sizedMet enc Tryd.prog Tryd.f15 (OpenSpec.ofChange Rows.sequencePowerSpec) false w args)
      (Rows.sequencePowerSpec.post enc Tryd.prog Tryd.f15 false true false false) := by
  refine returnsInHanded_of_change_and (C := Tryd.checked) (X := fun w _ => laidMetH Tryd.prog [("substation/cyclo.powers", Rows.laid_substation_cyclo_powers)] w) (fun _ _ _ hh h => h.of_heap hh) (by kernel_rfl) started (by kernel_rfl) Tryd.func15
    (ChangeSpec.witness_shaped (enc := enc) (C := Tryd.checked) (os := os) (X := fun w _ => laidMetH Tryd.prog [("substation/cyclo.powers", Rows.laid_substation_cyclo_powers)] w) false (World.doorLaid Tryd.prog 400 os) #[.agg #[.int .i64 0, .int .i64 0, .int .i64 0, .int .i64 0, .int .i64 0, .int .i64 0, .int .i64 0, .int .i64 0, .int .i64 0, .int .i64 0, .int .i64 0, .int .i64 0]] 8 rfl (World.shaped_of_RefB (by kernel_rfl) (by kernel_rfl)) (by kernel_rfl) (by kernel_rfl) (by kernel_rfl)
      (laidMetH_of_parts3 (fuel := 8) (laidMet_of_run' 8 (by kernel_rfl) (by kernel_rfl)) (by kernel_rfl) (by kernel_rfl))) ?_
  intro W base args ds gs before hval hW hc hw hL _
  exact law_calls (sas := sequencePowerArgs) (l := [IntKind.i64, IntKind.i64, IntKind.i64, IntKind.i64, IntKind.i64, IntKind.i64, IntKind.i64, IntKind.i64, IntKind.i64, IntKind.i64, IntKind.i64, IntKind.i64]) (tb := 4) 8 [0] [[1, 0, 0, 0, 0, 1, 0, 0, 0, 0, 1, 0, 0, 0, 0, 1, -1, 0, 1, 0, 0, -1, 0, 1]] sequencePowerX 10000 5 (by kernel_rfl) (by kernel_rfl) (by kernel_rfl) (by kernel_rfl) Tryd.underlying4 rfl
    (fun ds h => by
      match ds, h with
      | [_], _ => rfl)
    (by kernel_rfl) (by kernel_rfl) (by kernel_rfl) (by kernel_rfl) sequencePower_paths W base args ds gs before hval hW hc hw hL

theorem sequencePower_holds : Rows.SequencePowerSaid :=
  OpenClaim.holds_of_wide 15 Tryd.f15 rfl rfl rfl rfl rfl rfl rfl ⟨rfl, rfl, rfl, rfl, rfl⟩ rfl rfl rfl rfl rfl (by kernel_rfl) Tryd.func15 (by kernel_rfl)
    (of_decide_eq_true (by kernel_rfl)) (by unfold Func.isWrapper; rw [if_neg (of_decide_eq_false (by kernel_rfl))]; exact ⟨rfl, rfl⟩)
    (fun os started H enc _ => sequencePower_lifted os started H enc)

theorem sequencePower_card_holds : Rows.SequencePowerCardSaid :=
  Claim7.holds_tied_plain_at .later [] [.data] true (true, "77a93c77c39dc2a5b22e64f766bdefbacac5078b9446b1a40e4c3353cc15cd23") false
    sequencePower_holds (fun _ h => by cases h) (by kernel_rfl) (fun _ h => by cases h) sequencePower_row_tie rfl ⟨rfl, rfl⟩ (by kernel_rfl) rfl
    (fun f fn hf hfn => by
      obtain rfl : f = 15 := Option.some.inj ((show Tryd.prog.funcNamed Rows.sequencePowerRow.func = some 15 by kernel_rfl).symm.trans hf) |>.symm
      obtain rfl : fn = Tryd.f15 := (Option.some.inj (Tryd.func15.symm.trans hfn)).symm
      exact ⟨by kernel_rfl, fun j t ht => by
        rw [Tryd.params15] at ht
        have hm : t ∈ [45] := by simpa using Array.mem_of_getElem? ht
        have hall : ([45].all fun u => !Tryd.prog.wantsStandIn u) = true := by kernel_rfl
        exact (show Tryd.prog.wantsStandIn t = false by simpa using List.all_eq_true.1 hall t hm)⟩)
    (by kernel_rfl)
#print axioms sequencePower_card_holds
end Go.Proofs.YtchmfiiipdjikaaDoor

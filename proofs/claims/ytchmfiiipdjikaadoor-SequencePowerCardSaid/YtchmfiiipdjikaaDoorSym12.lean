/- SymGo, part 12: all the paths of a call; what the kernel has to compute. -/
import Derived.Test.YtchmfiiipdjikaaDoorSym11
import Derived.Below
namespace Go.Sym
open Go.RowKit

/-- The answer of a law on one path. -/
def lawS (C : Cfg) (fuel : Nat) (g : FuncId) (args : List SV) : R Bool := ((fns C fuel).call g args ⟨.leaf, 0⟩).bind fun r => match r.1 with
  | .bool b => .ok b
  | _ => .fail "no bool"

/-- Is the answer true on every path? -/
def explore (P : Program) (X : Nat → List SV) (gx : Nat → Option Nat) (fuel : Nat) (g : FuncId) (args : List SV) : Nat → Facts → Bool
  | 0, _ => false
  | n + 1, F => match F.absurd with
    | true => true
    | false => match lawS ⟨P, F, X, gx⟩ fuel g args with
      | .ok b => b
      | .need q => match explore P X gx fuel g args n (F.yes q) with
        | true => explore P X gx fuel g args n (F.no q)
        | false => false
      | .fail _ => false

theorem rep_start (w : World) (X : Nat → List SV) (D : Den) : Rep ⟨w, X⟩ D (fun _ => none) ⟨.leaf, 0⟩ w :=
  ⟨rfl, rfl, rfl, fun _ _ => rfl, Nat.le_refl _, fun i b h => by simp at h, fun i b h => by simp at h, fun i j b c h => by simp at h⟩
theorem Rep.below {B : Base} {D : Den} {μ : Mu} {s : St} {w : World} (h : Rep B D μ s w) : Below B.w0.heap.size B.w0 w := ⟨h.os, h.tape, h.output, h.size, h.base⟩

theorem explore_ok {P : Program} {X : Nat → List SV} {gx : Nat → Option Nat} {fuel : Nat} {g : FuncId} {args : List SV} (hm : P.follows .mixedOrders = true) {D : Den} {w : World} (hB : BaseOk ⟨w, X⟩ D)
    (hgx : ∀ g i, gx g = some i → D.xi i = ⟨g, 0, none⟩) {ARGS : List Value} (hA : SV.denL D (fun _ => none) args = some ARGS) :
    ∀ (n : Nat) (F : Facts), Sat D.env F → explore P X gx fuel g args n F = true →
    Calls P g ARGS.toArray w fun e w' => e = .returned (.bool true) ∧ Below w.heap.size w w'
  | 0, F, _, h => by simp [explore] at h
  | n + 1, F, hs, h => by
    simp only [explore, Facts.absurd_ok hs] at h
    split at h
    · rename_i b hl
      subst h
      obtain ⟨r, hr, h1⟩ := R.bind_ok hl
      split at h1
      · rename_i c hc
        simp only [R.ok.injEq] at h1
        subst h1
        have hC : Ok ⟨P, F, X, gx⟩ ⟨w, X⟩ D := ⟨hs, hB, rfl, hgx⟩
        refine ((fns_ok hC hm fuel).1 g args ⟨.leaf, 0⟩ r.1 r.2 hr (fun _ => none) w ARGS hA (rep_start w X D)).mono fun e w' he => ?_
        obtain ⟨ν, V, _, h3, h4, h5⟩ := he
        rw [hc] at h4
        simp only [SV.den, Option.some.injEq] at h4
        subst h4
        exact ⟨h3, h5.below⟩
      · simp at h1
    · rename_i q hq
      split at h
      · rename_i hy
        by_cases hh : q.holds D.env
        · exact explore_ok hm hB hgx hA n _ (Facts.yes_sat hs hh) hy
        · exact explore_ok hm hB hgx hA n _ (Facts.no_sat hs hh) h
      · simp at h
    · simp at h

end Go.Sym

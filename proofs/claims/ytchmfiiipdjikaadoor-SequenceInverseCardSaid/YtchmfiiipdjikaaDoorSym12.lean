/- SymGo, part 12: all the paths of a call, along a tree of tests; what the kernel has to compute; summaries proved by it. -/
import Derived.Test.YtchmfiiipdjikaaDoorSym11
import Derived.Below
namespace Go.Sym
open Go.RowKit

mutual
/-- Does the value name no place? -/
def SV.plain : SV → Bool
  | .int _ _ => true
  | .bool _ => true
  | .agg l => SV.plainL l
  | .tuple l => SV.plainL l
  | .raw _ => true
  | _ => false
def SV.plainL : List SV → Bool
  | [] => true
  | v :: l => Bool.casesOn (motive := fun _ => Bool) (SV.plain v) false (SV.plainL l)
end
mutual
theorem SV.plain_den {D : Den} {μ ν : Mu} : ∀ {v : SV}, v.plain = true → v.den D μ = v.den D ν
  | .int _ _, _ => rfl
  | .bool _, _ => rfl
  | .agg l, h => by simp only [SV.den, SV.plainL_den (μ := μ) (ν := ν) (show SV.plainL l = true from h)]
  | .tuple l, h => by simp only [SV.den, SV.plainL_den (μ := μ) (ν := ν) (show SV.plainL l = true from h)]
  | .raw _, _ => rfl
  | .ptr _ _, h => by simp [SV.plain] at h
  | .xptr _ _, h => by simp [SV.plain] at h
  | .slice _ _ _ _ _, h => by simp [SV.plain] at h
  | .xslice _ _ _ _, h => by simp [SV.plain] at h
  | .xlen _ _, h => by simp [SV.plain] at h
  | .func _ _ _, h => by simp [SV.plain] at h
theorem SV.plainL_den {D : Den} {μ ν : Mu} : ∀ {l : List SV}, SV.plainL l = true → SV.denL D μ l = SV.denL D ν l
  | [], _ => rfl
  | v :: l, h => by
    simp only [SV.plainL] at h
    cases hv : v.plain
    · rw [hv] at h; simp at h
    · rw [hv] at h
      simp only [SV.denL, SV.plain_den (μ := μ) (ν := ν) hv, SV.plainL_den (μ := μ) (ν := ν) h]
end

/-- Does the call come to the leaf on this path? -/
def leafB (C : Cfg) (fuel : Nat) (g : FuncId) (args : List SV) (v : SV) : Bool := match C.F.absurd with
  | true => true
  | false => match (fns C fuel).call g args ⟨.leaf, 0⟩ with
    | .ok r => SV.same r.1 v && v.plain
    | _ => false
/-- Does the call come to the tree's answer, on each path of the tree? -/
def checkT (P : Program) (X : Nat → List SV) (gx : Nat → Option Nat) (S : Nat → Option Summ) (fuel : Nat) (g : FuncId) (args : List SV) : STree → Facts → Bool
  | .leaf v, F => leafB ⟨P, F, X, gx, S⟩ fuel g args v
  | .test q a b, F => Bool.casesOn (motive := fun _ => Bool) (checkT P X gx S fuel g args a (F.yes q)) false (checkT P X gx S fuel g args b (F.no q))
theorem checkT_test {P : Program} {X : Nat → List SV} {gx : Nat → Option Nat} {S : Nat → Option Summ} {fuel : Nat} {g : FuncId} {args : List SV} {q : Quest} {a b : STree} {F : Facts}
    (ha : checkT P X gx S fuel g args a (F.yes q) = true) (hb : checkT P X gx S fuel g args b (F.no q) = true) : checkT P X gx S fuel g args (.test q a b) F = true := by
  simp only [checkT, ha, hb]

theorem rep_start (w : World) (X : Nat → List SV) (D : Den) : Rep ⟨w, X⟩ D (fun _ => none) ⟨.leaf, 0⟩ w :=
  ⟨rfl, rfl, rfl, fun _ _ => rfl, Nat.le_refl _, fun i b h => by simp at h, fun i b h => by simp at h, fun i j b c h => by simp at h⟩
theorem Rep.below {B : Base} {D : Den} {μ : Mu} {s : St} {w : World} (h : Rep B D μ s w) : Below B.w0.heap.size B.w0 w := ⟨h.os, h.tape, h.output, h.size, h.base⟩

theorem test_iff {ρ : Env} {q : Quest} : q.test ρ = true ↔ q.holds ρ := by
  cases q <;> simp [Quest.test, Quest.holds]

theorem checkT_ok {P : Program} {X : Nat → List SV} {gx : Nat → Option Nat} {S : Nat → Option Summ} {fuel : Nat} {g : FuncId} {args : List SV} (hm : P.follows .mixedOrders = true) (hX : Closed0 X) (hS : ∀ g m, S g = some m → SumOk P X gx g m)
    {D : Den} {w : World} (hB : BaseOk ⟨w, X⟩ D) (hgx : ∀ g i, gx g = some i → D.xi i = ⟨g, 0, none⟩) {ARGS : List Value} (hA : SV.denL D (fun _ => none) args = some ARGS) :
    ∀ (t : STree) (F : Facts), Sat D.env F → checkT P X gx S fuel g args t F = true → Calls P g ARGS.toArray w fun e w' => ∃ V, e = .returned V ∧ t.ev D = some V ∧ Below w.heap.size w w'
  | .leaf v, F, hs, h => by
    simp only [checkT, leafB, Facts.absurd_ok hs] at h
    split at h
    · rename_i r hr
      rw [Bool.and_eq_true] at h
      have hC : Ok ⟨P, F, X, gx, S⟩ ⟨w, X⟩ D := ⟨hs, hB, rfl, hgx, hX, hS⟩
      refine ((fns_ok hC hm fuel).1 g args ⟨.leaf, 0⟩ r.1 r.2 hr (fun _ => none) w ARGS hA (rep_start w X D)).mono fun e w' he => ?_
      obtain ⟨ν, V, _, h3, h4, h5⟩ := he
      refine ⟨V, h3, ?_, h5.below⟩
      rw [SV.same_eq h.1] at h4
      rw [STree.ev, SV.plain_den (ν := ν) h.2]
      exact h4
    · simp at h
  | .test q a b, F, hs, h => by
    simp only [checkT] at h
    cases ha : checkT P X gx S fuel g args a (F.yes q)
    · rw [ha] at h; simp at h
    · rw [ha] at h
      cases ht : q.test D.env
      · refine (checkT_ok hm hX hS hB hgx hA b (F.no q) (Facts.no_sat hs fun hh => by rw [test_iff.2 hh] at ht; simp at ht) h).mono fun e w' he => ?_
        simpa [STree.ev, ht] using he
      · refine (checkT_ok hm hX hS hB hgx hA a (F.yes q) (Facts.yes_sat hs (test_iff.1 ht)) ha).mono fun e w' he => ?_
        simpa [STree.ev, ht] using he

/-- A summary, proved. -/
theorem sumOk_of {P : Program} {X : Nat → List SV} {gx : Nat → Option Nat} {S : Nat → Option Summ} {fuel : Nat} {g : FuncId} {m : Summ} (hm : P.follows .mixedOrders = true) (hX : Closed0 X) (hS : ∀ g m, S g = some m → SumOk P X gx g m)
    (h : checkT P X gx S fuel g m.args m.tree (facts0 m.l) = true) : SumOk P X gx g m := fun _ _ hB hgx hk _ hA =>
  checkT_ok hm hX hS hB hgx hA m.tree (facts0 m.l) (facts0_sat hk) h

/-- Is the answer true at every leaf? -/
def STree.allTrue : STree → Bool
  | .leaf v => match v with
    | .bool b => b
    | _ => false
  | .test _ a b => Bool.casesOn (motive := fun _ => Bool) a.allTrue false b.allTrue
theorem STree.allTrue_ev {D : Den} : ∀ {t : STree}, t.allTrue = true → t.ev D = some (.bool true)
  | .leaf v, h => by
    cases v <;> simp only [STree.allTrue] at h <;> first | (simp at h; done) | (subst h; rfl)
  | .test q a b, h => by
    simp only [STree.allTrue] at h
    cases ha : a.allTrue
    · rw [ha] at h; simp at h
    · rw [ha] at h
      simp only [STree.ev]
      split
      · exact STree.allTrue_ev ha
      · exact STree.allTrue_ev h

/-- The summaries, one after the other. -/
def sumsOf : List (Nat × Summ) → Nat → Option Summ
  | [], _ => none
  | (f, m) :: l, g => Bool.casesOn (motive := fun _ => Option Summ) (Nat.beq f g) (sumsOf l g) (some m)
theorem sumsOf_ok {P : Program} {X : Nat → List SV} {gx : Nat → Option Nat} {f : Nat} {m : Summ} {l : List (Nat × Summ)} (h : SumOk P X gx f m) (hl : ∀ g m, sumsOf l g = some m → SumOk P X gx g m) :
    ∀ g n, sumsOf ((f, m) :: l) g = some n → SumOk P X gx g n := fun g n hn => by
  simp only [sumsOf] at hn
  cases hb : Nat.beq f g
  · rw [hb] at hn; exact hl g n hn
  · rw [hb] at hn
    have := Nat.eq_of_beq_eq_true hb
    subst this
    simp only [Option.some.injEq] at hn
    subst hn
    exact h
theorem sumsOf_nil {P : Program} {X : Nat → List SV} {gx : Nat → Option Nat} : ∀ g m, sumsOf [] g = some m → SumOk P X gx g m := fun _ _ h => by simp [sumsOf] at h

end Go.Sym

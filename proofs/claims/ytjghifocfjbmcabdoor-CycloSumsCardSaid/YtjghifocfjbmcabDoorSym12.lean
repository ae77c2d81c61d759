/- SymGo, part 12: all the paths of a call, along a tree of tests; what the kernel has to compute; summaries proved by it. -/
import Derived.Test.YtjghifocfjbmcabDoorSym11
import Derived.Below
namespace Go.Sym
open Go.RowKit

/-- Are the listed blocks in the state, as they are listed? -/
def blIn (H : Tree SBlk) : List (Nat × SBlk) → Bool
  | [] => true
  | x :: l => match H.get x.1 with
    | some b => match Nat.beq b.kind x.2.kind && (SV.sameL b.cells x.2.cells && SV.plainL x.2.cells) with
      | true => blIn H l
      | false => false
    | none => false
theorem blIn_ok {H : Tree SBlk} : ∀ {bl : List (Nat × SBlk)}, blIn H bl = true → ∀ i b, (putAll .leaf 0 bl).get i = some b → H.get i = some b ∧ SV.plainL b.cells = true
  | [], _, i, b, hb => by simp [putAll, Tree.get] at hb
  | x :: l, h, i, b, hb => by
    simp only [blIn] at h
    split at h
    · rename_i b' hb'
      split at h
      · rename_i hc
        simp only [Bool.and_eq_true] at hc
        simp only [putAll, Tree.get_set] at hb
        by_cases e : i = Nat.add 0 x.1
        · rw [if_pos e] at hb
          simp only [Option.some.injEq] at hb
          subst hb
          have e2 : i = x.1 := by rw [e]; exact Nat.zero_add _
          subst e2
          refine ⟨?_, hc.2.2⟩
          rw [hb']
          congr 1
          obtain ⟨cells, kind⟩ := b'
          obtain ⟨n, cells', kind'⟩ := x
          have h1 := beq_iff.1 hc.1
          have h2 := SV.sameL_eq hc.2.1
          simp only at h1 h2
          rw [h1, h2]
        · rw [if_neg e] at hb
          exact blIn_ok h i b hb
      · simp at h
    · simp at h
/-- Does the call come to the leaf on this path? -/
def leafB (C : Cfg) (fuel : Nat) (g : FuncId) (args : List SV) (v : SV) (bl : List (Nat × SBlk)) : Bool := match C.F.absurd with
  | true => true
  | false => match (fns C fuel).call g args ⟨.leaf, 0⟩ with
    | .ok r => SV.same r.1 v && (match bl with
      | [] => v.plain
      | bl => blIn r.2.H bl && v.idsIn (putAll .leaf 0 bl))
    | _ => false
/-- Does the call come to the tree's answer, on each path of the tree? -/
def checkT (P : Program) (X : Nat → List SV) (gx : Nat → Option Nat) (S : Nat → List Summ) (fuel : Nat) (g : FuncId) (args : List SV) : STree → Facts → Bool
  | .leaf v, F => leafB ⟨P, F, X, gx, S⟩ fuel g args v []
  | .leafM v bl, F => leafB ⟨P, F, X, gx, S⟩ fuel g args v bl
  | .test q a b, F => Bool.casesOn (motive := fun _ => Bool) (checkT P X gx S fuel g args a (F.yes q)) false (checkT P X gx S fuel g args b (F.no q))
theorem checkT_test {P : Program} {X : Nat → List SV} {gx : Nat → Option Nat} {S : Nat → List Summ} {fuel : Nat} {g : FuncId} {args : List SV} {q : Quest} {a b : STree} {F : Facts}
    (ha : checkT P X gx S fuel g args a (F.yes q) = true) (hb : checkT P X gx S fuel g args b (F.no q) = true) : checkT P X gx S fuel g args (.test q a b) F = true := by
  simp only [checkT, ha, hb]

theorem rep_start (w : World) (X : Nat → List SV) (D : Den) : Rep ⟨w, X⟩ D (fun _ => none) ⟨.leaf, 0⟩ w :=
  ⟨rfl, rfl, rfl, fun _ _ => rfl, Nat.le_refl _, fun i b h => by simp at h, fun i b h => by simp at h, fun i j b c h => by simp at h, fun i b k h => by simp at h⟩
theorem Rep.below {B : Base} {D : Den} {μ : Mu} {s : St} {w : World} (h : Rep B D μ s w) : Below B.w0.heap.size B.w0 w := ⟨h.os, h.tape, h.output, h.size, h.base⟩

theorem test_iff {ρ : Env} {q : Quest} : q.test ρ = true ↔ q.holds ρ := by
  cases q <;> simp [Quest.test, Quest.holds]
theorem leafB_ok {C : Cfg} {fuel : Nat} {g : FuncId} {args : List SV} {v : SV} {bl : List (Nat × SBlk)} {w : World} {D : Den} (hC : Ok C ⟨w, C.X⟩ D) (hm : C.P.follows .mixedOrders = true) {ARGS : List Value} (hA : SV.denL D (fun _ => none) args = some ARGS)
    (h : leafB C fuel g args v bl = true) : Calls C.P g ARGS.toArray w fun e w' => ∃ V μ, e = .returned V ∧ v.den D μ = some V ∧ Rep ⟨w, C.X⟩ D μ (stM bl) w' := by
  simp only [leafB, Facts.absurd_ok hC.sat] at h
  split at h
  · rename_i r hr
    rw [Bool.and_eq_true] at h
    refine ((fns_ok hC hm fuel).1 g args ⟨.leaf, 0⟩ r.1 r.2 hr (fun _ => none) w ARGS hA (rep_start w C.X D)).mono fun e w' he => ?_
    obtain ⟨ν, V, _, h3, h4, h5⟩ := he
    rw [SV.same_eq h.1] at h4
    cases bl with
    | nil =>
      refine ⟨V, fun _ => none, h3, by rw [SV.plain_den (ν := ν) h.2]; exact h4, ?_⟩
      exact (rep_start w C.X D).of_below h5.below
    | cons x l =>
      have h2 := h.2
      simp only [Bool.and_eq_true] at h2
      refine ⟨V, _, h3, ?_, h5.keep (blIn_ok h2.1)⟩
      rw [SV.idsIn_den (μ := ν) (H := putAll .leaf 0 (x :: l)) (fun i hi => ?_) h2.2]
      · exact h4
      · cases e : (putAll .leaf 0 (x :: l)).get i with
        | none => rw [e] at hi; simp at hi
        | some k => rfl
  · simp at h

theorem checkT_ok {P : Program} {X : Nat → List SV} {gx : Nat → Option Nat} {S : Nat → List Summ} {fuel : Nat} {g : FuncId} {args : List SV} (hm : P.follows .mixedOrders = true) (hX : Closed0 X) (hS : ∀ g, ∀ m ∈ S g, SumOk P X gx g m)
    {D : Den} {w : World} (hB : BaseOk ⟨w, X⟩ D) (hgx : ∀ g i, gx g = some i → i < 1000 ∧ D.xi i = ⟨g, 0, none⟩) {ARGS : List Value} (hA : SV.denL D (fun _ => none) args = some ARGS) :
    ∀ (t : STree) (F : Facts), Sat D.env F → checkT P X gx S fuel g args t F = true → Calls P g ARGS.toArray w fun e w' => ∃ V μ, e = .returned V ∧ (t.at D.env).1.den D μ = some V ∧ Rep ⟨w, X⟩ D μ (stM (t.at D.env).2) w'
  | .leaf v, F, hs, h => leafB_ok (C := ⟨P, F, X, gx, S⟩) (bl := []) ⟨hs, hB, rfl, hgx, hX, hS⟩ hm hA h
  | .leafM v bl, F, hs, h => leafB_ok (C := ⟨P, F, X, gx, S⟩) (bl := bl) ⟨hs, hB, rfl, hgx, hX, hS⟩ hm hA h
  | .test q a b, F, hs, h => by
    simp only [checkT] at h
    cases ha : checkT P X gx S fuel g args a (F.yes q)
    · rw [ha] at h; simp at h
    · rw [ha] at h
      cases ht : q.test D.env
      · refine (checkT_ok hm hX hS hB hgx hA b (F.no q) (Facts.no_sat hs fun hh => by rw [test_iff.2 hh] at ht; simp at ht) h).mono fun e w' he => ?_
        simpa [STree.at, ht] using he
      · refine (checkT_ok hm hX hS hB hgx hA a (F.yes q) (Facts.yes_sat hs (test_iff.1 ht)) ha).mono fun e w' he => ?_
        simpa [STree.at, ht] using he
theorem Closed0.with {X : Nat → List SV} {rows : List (List SV)} (h : Closed0 X) : Closed0 (xWith X rows) := fun i j v hi hv => by
  rw [xWith_lt hi] at hv
  exact h i j v hi hv

/-- A summary, proved: on facts that hold wherever the numbers lie in their kinds. -/
theorem sumOk_ofF {P : Program} {X : Nat → List SV} {gx : Nat → Option Nat} {S : Nat → List Summ} {fuel : Nat} {g : FuncId} {m : Summ} {F : Facts} (hF : ∀ ρ : Env, ρ.f = stdF → (∀ (i : Nat) (k : Iv), m.l[i]? = some k → k.has (ρ.v i)) → Sat ρ F)
    (hm : P.follows .mixedOrders = true) (hX : Closed0 X) (hS : ∀ g, ∀ m ∈ S g, SumOk P X gx g m) (h : checkT P (xWith X m.rows) gx S fuel g m.args m.tree F = true) : SumOk P X gx g m := fun D _ hB hf hgx hk _ hA =>
  checkT_ok hm hX.with (fun g m' hm' => SumOk.with.2 (hS g m' hm')) hB hgx hA m.tree F (hF D.env hf hk) h
theorem sumOk_of {P : Program} {X : Nat → List SV} {gx : Nat → Option Nat} {S : Nat → List Summ} {fuel : Nat} {g : FuncId} {m : Summ} (hm : P.follows .mixedOrders = true) (hX : Closed0 X) (hS : ∀ g, ∀ m ∈ S g, SumOk P X gx g m)
    (h : checkT P (xWith X m.rows) gx S fuel g m.args m.tree (facts0 m.l) = true) : SumOk P X gx g m := sumOk_ofF (fun _ hf hk => facts0_sat hf hk) hm hX hS h
/-- The start, with quotients in their normal form. -/
def factsN (l : List Iv) : Facts := { facts0 l with nf := true }
theorem factsN_sat {ρ : Env} {l : List Iv} (hf : ρ.f = stdF) (h : ∀ (i : Nat) (k : Iv), l[i]? = some k → k.has (ρ.v i)) : Sat ρ (factsN l) :=
  { vb := (facts0_sat hf h).vb, f := hf, bd := (facts0_sat hf h).bd, ne := (facts0_sat hf h).ne, eqs := (facts0_sat hf h).eqs }
theorem sumOk_ofN {P : Program} {X : Nat → List SV} {gx : Nat → Option Nat} {S : Nat → List Summ} {fuel : Nat} {g : FuncId} {m : Summ} (hm : P.follows .mixedOrders = true) (hX : Closed0 X) (hS : ∀ g, ∀ m ∈ S g, SumOk P X gx g m)
    (h : checkT P (xWith X m.rows) gx S fuel g m.args m.tree (factsN m.l) = true) : SumOk P X gx g m := sumOk_ofF (fun _ hf hk => factsN_sat hf hk) hm hX hS h
/-- Facts that hold at all numbers, put to the start. -/
def factsH (l : List Iv) (qs : List Quest) : Facts := qs.foldl Facts.yes (facts0 l)
theorem foldl_yes_sat {ρ : Env} : ∀ {qs : List Quest} {F : Facts}, Sat ρ F → (∀ q ∈ qs, q.holds ρ) → Sat ρ (qs.foldl Facts.yes F)
  | [], _, h, _ => h
  | q :: qs, _, h, hq => foldl_yes_sat (qs := qs) (Facts.yes_sat h (hq q List.mem_cons_self)) fun x hx => hq x (List.mem_cons_of_mem _ hx)
theorem factsH_sat {l : List Iv} {qs : List Quest} (hq : ∀ ρ : Env, ρ.f = stdF → (∀ (i : Nat) (k : Iv), l[i]? = some k → k.has (ρ.v i)) → ∀ q ∈ qs, q.holds ρ) :
    ∀ ρ : Env, ρ.f = stdF → (∀ (i : Nat) (k : Iv), l[i]? = some k → k.has (ρ.v i)) → Sat ρ (factsH l qs) := fun ρ hf hk => foldl_yes_sat (facts0_sat hf hk) (hq ρ hf hk)

/-- A summary's tree may be exchanged for one that comes to the same wherever the numbers lie in their kinds. -/
theorem SumOk.congr {P : Program} {X : Nat → List SV} {gx : Nat → Option Nat} {g : FuncId} {args : List SV} {l : List Iv} {rows : List (List SV)} {inv : List (List (Nat × Int))} {t t' : STree} (h : SumOk P X gx g ⟨args, l, t, rows, inv⟩) (hp : t.plainT = true) (hp' : t'.plainT = true) (inv' : List (List (Nat × Int)))
    (ht : ∀ D : Den, D.env.f = stdF → (∀ (i : Nat) (k : Iv), l[i]? = some k → k.has (D.env.v i)) → t.ev D = t'.ev D) : SumOk P X gx g ⟨args, l, t', rows, inv'⟩ := fun D w hB hf hgx hk ARGS hA =>
  (h D w hB hf hgx hk ARGS hA).mono fun e w' he => by
    obtain ⟨V, μ, h1, h2, h3⟩ := he
    obtain ⟨p1, p2⟩ := STree.plainT_at (D := D) hp
    obtain ⟨q1, q2⟩ := STree.plainT_at (D := D) hp'
    refine ⟨V, μ, h1, ?_, ?_⟩
    · show (t'.at D.env).1.den D μ = some V
      rw [q2 μ, ← ht D hf hk, ← p2 μ]; exact h2
    · show Rep _ D μ (stM (t'.at D.env).2) w'
      rw [q1, ← p1]; exact h3

/-- Is the answer true at every leaf? -/
def STree.allTrue : STree → Bool
  | .leaf v => match v with
    | .bool b => b
    | _ => false
  | .leafM _ _ => false
  | .test _ a b => Bool.casesOn (motive := fun _ => Bool) a.allTrue false b.allTrue
theorem STree.allTrue_ev {D : Den} {μ : Mu} : ∀ {t : STree}, t.allTrue = true → (t.at D.env).1.den D μ = some (.bool true)
  | .leaf v, h => by
    cases v <;> simp only [STree.allTrue] at h <;> first | (simp at h; done) | (subst h; rfl)
  | .leafM v bl, h => by simp [STree.allTrue] at h
  | .test q a b, h => by
    simp only [STree.allTrue] at h
    cases ha : a.allTrue
    · rw [ha] at h; simp at h
    · rw [ha] at h
      simp only [STree.at]
      split
      · exact STree.allTrue_ev ha
      · exact STree.allTrue_ev h

/-- The summaries, one after the other. -/
def sumsOf : List (Nat × Summ) → Nat → List Summ
  | [], _ => []
  | (f, m) :: l, g => Bool.casesOn (motive := fun _ => List Summ) (Nat.beq f g) (sumsOf l g) (m :: sumsOf l g)
theorem sumsOf_ok {P : Program} {X : Nat → List SV} {gx : Nat → Option Nat} {f : Nat} {m : Summ} {l : List (Nat × Summ)} (h : SumOk P X gx f m) (hl : ∀ g, ∀ m ∈ sumsOf l g, SumOk P X gx g m) :
    ∀ g, ∀ n ∈ sumsOf ((f, m) :: l) g, SumOk P X gx g n := fun g n hn => by
  simp only [sumsOf] at hn
  cases hb : Nat.beq f g
  · rw [hb] at hn; exact hl g n hn
  · rw [hb] at hn
    have := Nat.eq_of_beq_eq_true hb
    subst this
    rcases List.mem_cons.1 hn with rfl | hn
    · exact h
    · exact hl _ n hn
theorem sumsOf_nil {P : Program} {X : Nat → List SV} {gx : Nat → Option Nat} : ∀ g, ∀ m ∈ sumsOf [] g, SumOk P X gx g m := fun _ _ h => by simp [sumsOf] at h

end Go.Sym

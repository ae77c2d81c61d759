/- SymGo: a tree whose leaves have one shape is one leaf, whose numbers are choices. -/
import Derived.Test.YtjghifocfjbmcabDoorSymN
namespace Go.Sym

mutual
def SV.mix (n : Nat) (p : Poly) : SV → SV → Option SV
  | .int k a, u => match u with
    | .int k' b => match Nat.beq (kidx k) (kidx k') with
      | true => some (.int k (iteA n p a b))
      | false => none
    | _ => none
  | .agg l, u => match u with
    | .agg m => (SV.mixL n p l m).map .agg
    | _ => none
  | .tuple l, u => match u with
    | .tuple m => (SV.mixL n p l m).map .tuple
    | _ => none
  | a, b => match SV.same a b with
    | true => some a
    | false => none
def SV.mixL (n : Nat) (p : Poly) : List SV → List SV → Option (List SV)
  | [], m => match m with
    | [] => some []
    | _ => none
  | a :: l, m => match m with
    | b :: m => (SV.mix n p a b).bind fun c => (SV.mixL n p l m).map (c :: ·)
    | [] => none
end
theorem same_pick {D : Den} {μ : Mu} {pick : Bool} {a b c : SV} (h : (match SV.same a b with | true => some a | false => none) = some c) : c.den D μ = (bif pick then a else b).den D μ := by
  split at h
  · rename_i e
    have := SV.same_eq e
    subst this
    simp only [Option.some.injEq] at h
    subst h
    cases pick <;> rfl
  · simp at h
mutual
theorem SV.mix_den {D : Den} {μ : Mu} {n : Nat} {p : Poly} {pick : Bool} (h : ∀ x y, D.env.f n (Poly.ev D.env p) x y = bif pick then x else y) : ∀ {a b c : SV}, SV.mix n p a b = some c → c.den D μ = (bif pick then a else b).den D μ
  | .int k a, u, c, hc => by
    simp only [SV.mix] at hc
    split at hc
    · rename_i k' b
      split at hc
      · rename_i e
        have := kidx_inj (beq_iff.1 e)
        subst this
        simp only [Option.some.injEq] at hc
        subst hc
        have := iteA_ev (ρ := D.env) n p a b (by rw [h]; cases pick <;> rfl)
        rw [h] at this
        cases pick <;> simp only [SV.den, this, cond_true, cond_false]
      · simp at hc
    · simp at hc
  | .agg l, u, c, hc => by
    simp only [SV.mix] at hc
    split at hc
    · rename_i m
      rw [Option.map_eq_some_iff] at hc
      obtain ⟨r, h1, h2⟩ := hc
      subst h2
      have := SV.mixL_den (μ := μ) h h1
      cases pick <;> simp only [SV.den, this, cond_true, cond_false]
    · simp at hc
  | .tuple l, u, c, hc => by
    simp only [SV.mix] at hc
    split at hc
    · rename_i m
      rw [Option.map_eq_some_iff] at hc
      obtain ⟨r, h1, h2⟩ := hc
      subst h2
      have := SV.mixL_den (μ := μ) h h1
      cases pick <;> simp only [SV.den, this, cond_true, cond_false]
    · simp at hc
  | .bool _, _, _, hc => by simp only [SV.mix] at hc; exact same_pick hc
  | .ptr _ _, _, _, hc => by simp only [SV.mix] at hc; exact same_pick hc
  | .xptr _ _, _, _, hc => by simp only [SV.mix] at hc; exact same_pick hc
  | .slice _ _ _ _ _, _, _, hc => by simp only [SV.mix] at hc; exact same_pick hc
  | .xslice _ _ _ _, _, _, hc => by simp only [SV.mix] at hc; exact same_pick hc
  | .xlen _ _, _, _, hc => by simp only [SV.mix] at hc; exact same_pick hc
  | .aslice _ _ _, _, _, hc => by simp only [SV.mix] at hc; exact same_pick hc
  | .oslice _ _, _, _, hc => by simp only [SV.mix] at hc; exact same_pick hc
  | .func _ _ _, _, _, hc => by simp only [SV.mix] at hc; exact same_pick hc
  | .raw _, _, _, hc => by simp only [SV.mix] at hc; exact same_pick hc
theorem SV.mixL_den {D : Den} {μ : Mu} {n : Nat} {p : Poly} {pick : Bool} (h : ∀ x y, D.env.f n (Poly.ev D.env p) x y = bif pick then x else y) : ∀ {a b c : List SV}, SV.mixL n p a b = some c → SV.denL D μ c = SV.denL D μ (bif pick then a else b)
  | [], m, c, hc => by
    simp only [SV.mixL] at hc
    split at hc
    · simp only [Option.some.injEq] at hc
      subst hc
      cases pick <;> rfl
    · simp at hc
  | a :: l, m, c, hc => by
    simp only [SV.mixL] at hc
    split at hc
    · rename_i b m
      rw [Option.bind_eq_some_iff] at hc
      obtain ⟨x, h1, h2⟩ := hc
      rw [Option.map_eq_some_iff] at h2
      obtain ⟨y, h2, h3⟩ := h2
      subst h3
      have e1 := SV.mix_den (μ := μ) h h1
      have e2 := SV.mixL_den (μ := μ) h h2
      cases pick <;> simp only [SV.denL, e1, e2, cond_true, cond_false]
    · simp at hc
end
def STree.fold : STree → Option SV
  | .leaf v => some v
  | .leafM _ _ => none
  | .test q a b => a.fold.bind fun x => b.fold.bind fun y => match q with
    | .le p => SV.mix 2 p x y
    | .eq p => SV.mix 3 p x y
theorem STree.fold_ev {D : Den} (hf : D.env.f = stdF) : ∀ {t : STree} {v : SV}, t.fold = some v → t.ev D = v.den D (fun _ => none)
  | .leaf v, u, h => by simp only [STree.fold, Option.some.injEq] at h; subst h; rfl
  | .leafM _ _, u, h => by simp [STree.fold] at h
  | .test q a b, u, h => by
    simp only [STree.fold, Option.bind_eq_some_iff] at h
    obtain ⟨x, hx, y, hy, h⟩ := h
    have ea := STree.fold_ev hf hx
    have eb := STree.fold_ev hf hy
    cases q with
    | le p =>
      have := SV.mix_den (D := D) (μ := fun _ => none) (n := 2) (p := p) (pick := decide (Poly.ev D.env p ≤ 0)) (fun x y => by rw [hf]; simp only [stdF]; by_cases g : Poly.ev D.env p ≤ 0 <;> simp [g]) h
      rw [this]
      simp only [STree.ev, Quest.test]
      cases decide (Poly.ev D.env p ≤ 0)
      · exact eb
      · exact ea
    | eq p =>
      have := SV.mix_den (D := D) (μ := fun _ => none) (n := 3) (p := p) (pick := decide (Poly.ev D.env p = 0)) (fun x y => by rw [hf]; simp only [stdF]; by_cases g : Poly.ev D.env p = 0 <;> simp [g]) h
      rw [this]
      simp only [STree.ev, Quest.test]
      cases decide (Poly.ev D.env p = 0)
      · exact eb
      · exact ea
/-- The folded summary. -/
theorem Exch.fold {m : Summ} {v : SV} (hp : m.tree.plainT = true) (hv : v.plain = true) (h : m.tree.fold = some v) : Exch m ⟨m.args, m.l, .leaf v, m.rows, []⟩ :=
  ⟨⟨rfl, rfl, hp, hv⟩, rfl, fun _ hf _ => STree.fold_ev hf h⟩

end Go.Sym

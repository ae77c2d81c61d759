/- SymGo, summaries: what a function comes to, as a tree of tests on its arguments' numbers; the numbers put in; what it is for a summary to hold. -/
import Derived.Test.YtjghifocfjbmcaaDoorSym3
import Derived.Below
namespace Go.Sym
open Go.RowKit

/-! ### Numbers put in for the variables -/
def nthP : List Poly → Nat → Poly
  | [], _ => []
  | p :: l, n => Bool.casesOn (motive := fun _ => Poly) (Nat.beq n 0) (nthP l (Nat.pred n)) p
/-- The valuation of the variables that the polynomials make. -/
def Env.sub (ρ : Env) (σ : List Poly) : Env := { v := fun i => Poly.ev ρ (nthP σ i), f := ρ.f }

def E.sub (F : Facts) (σ : List Poly) : E → R Poly
  | .lit n => .ok (Poly.lit n)
  | .var i => .ok (nthP σ i)
  | .add a b => (a.sub F σ).bind fun p => (b.sub F σ).bind fun q => .ok (Poly.plus p q)
  | .mul a b => (a.sub F σ).bind fun p => (b.sub F σ).bind fun q => .ok (Poly.times p q)
  | .rem a b => (a.sub F σ).bind fun p => (b.sub F σ).bind fun q => .ok (remP F p q)
  | .quo a b => (a.sub F σ).bind fun p => (b.sub F σ).bind fun q => .ok (quoP F p q)
  | .fdiv a b => match b with
    | .lit n => (a.sub F σ).bind fun p => .ok (fdivP F p n)
    | b => (a.sub F σ).bind fun p => (b.sub F σ).bind fun q => .ok (fdivQ F p q)
  | .wrap k a => (a.sub F σ).bind fun p => .ok (wrapP F k p)
  | .app f a b c => (a.sub F σ).bind fun p => (b.sub F σ).bind fun q => (c.sub F σ).bind fun r => .ok (appP F f p q r)
  | .emod m a => (a.sub F σ).bind fun p => .ok (emodP F m p)
theorem E.sub_ev {ρ : Env} {F : Facts} (hs : Sat ρ F) {σ : List Poly} : ∀ {e : E} {p : Poly}, e.sub F σ = .ok p → Poly.ev ρ p = e.ev (ρ.sub σ)
  | .lit n, p, h => by simp only [E.sub, R.ok.injEq] at h; subst h; rw [Poly.ev_lit]; rfl
  | .var i, p, h => by simp only [E.sub, R.ok.injEq] at h; subst h; rfl
  | .add a b, p, h => by
    obtain ⟨x, hx, h1⟩ := R.bind_ok h
    obtain ⟨y, hy, h2⟩ := R.bind_ok h1
    simp only [R.ok.injEq] at h2; subst h2
    rw [Poly.ev_plus, E.sub_ev hs hx, E.sub_ev hs hy, E.ev_add]
  | .mul a b, p, h => by
    obtain ⟨x, hx, h1⟩ := R.bind_ok h
    obtain ⟨y, hy, h2⟩ := R.bind_ok h1
    simp only [R.ok.injEq] at h2; subst h2
    rw [Poly.ev_times, E.sub_ev hs hx, E.sub_ev hs hy, E.ev_mul]
  | .rem a b, p, h => by
    obtain ⟨x, hx, h1⟩ := R.bind_ok h
    obtain ⟨y, hy, h2⟩ := R.bind_ok h1
    simp only [R.ok.injEq] at h2; subst h2
    rw [remP_ev hs, E.sub_ev hs hx, E.sub_ev hs hy, E.ev_rem]
  | .quo a b, p, h => by
    obtain ⟨x, hx, h1⟩ := R.bind_ok h
    obtain ⟨y, hy, h2⟩ := R.bind_ok h1
    simp only [R.ok.injEq] at h2; subst h2
    rw [quoP_ev hs, E.sub_ev hs hx, E.sub_ev hs hy, E.ev_quo]
  | .fdiv a b, p, h => by
    unfold E.sub at h
    split at h
    · rename_i n
      obtain ⟨x, hx, h1⟩ := R.bind_ok h
      simp only [R.ok.injEq] at h1; subst h1
      rw [fdivP_ev hs, E.sub_ev hs hx, E.ev_fdiv, E.ev_lit]
    · obtain ⟨x, hx, h1⟩ := R.bind_ok h
      obtain ⟨y, hy, h2⟩ := R.bind_ok h1
      simp only [R.ok.injEq] at h2; subst h2
      rw [fdivQ_ev hs, E.sub_ev hs hx, E.sub_ev hs hy, E.ev_fdiv]
  | .wrap k a, p, h => by
    obtain ⟨x, hx, h1⟩ := R.bind_ok h
    simp only [R.ok.injEq] at h1; subst h1
    rw [wrapP_ev hs, E.sub_ev hs hx, E.ev_wrap]
  | .app f a b c, p, h => by
    obtain ⟨x, hx, h1⟩ := R.bind_ok h
    obtain ⟨y, hy, h2⟩ := R.bind_ok h1
    obtain ⟨z, hz, h3⟩ := R.bind_ok h2
    simp only [R.ok.injEq] at h3; subst h3
    rw [appP_ev hs, E.sub_ev hs hx, E.sub_ev hs hy, E.sub_ev hs hz, E.ev_app]
    rfl
  | .emod m a, p, h => by
    obtain ⟨x, hx, h1⟩ := R.bind_ok h
    simp only [R.ok.injEq] at h1; subst h1
    rw [emodP_ev hs, E.sub_ev hs hx, E.ev_emod]

def Mono.sub (F : Facts) (σ : List Poly) (c : Int) : Mono → R Poly
  | [] => .ok (Poly.lit c)
  | [e] => (e.sub F σ).bind fun p => match c with
      | .ofNat 1 => .ok p
      | c => .ok (Poly.times (Poly.lit c) p)
  | e :: m => (e.sub F σ).bind fun p => (Mono.sub F σ c m).bind fun q => .ok (Poly.times p q)
theorem Mono.sub_ev {ρ : Env} {F : Facts} (hs : Sat ρ F) {σ : List Poly} {c : Int} : ∀ {m : Mono} {p : Poly}, Mono.sub F σ c m = .ok p → Poly.ev ρ p = c * Mono.ev (ρ.sub σ) m
  | [], p, h => by simp only [Mono.sub, R.ok.injEq] at h; subst h; rw [Poly.ev_lit, Mono.ev, Int.mul_one]
  | [e], p, h => by
    simp only [Mono.sub] at h
    obtain ⟨x, hx, h1⟩ := R.bind_ok h
    split at h1
    · simp only [R.ok.injEq] at h1; subst h1
      rw [E.sub_ev hs hx]
      simp [Mono.ev]
    · simp only [R.ok.injEq] at h1; subst h1
      rw [Poly.ev_times, Poly.ev_lit, E.sub_ev hs hx]
      simp [Mono.ev]
  | e :: a :: m, p, h => by
    simp only [Mono.sub] at h
    obtain ⟨x, hx, h1⟩ := R.bind_ok h
    obtain ⟨y, hy, h2⟩ := R.bind_ok h1
    simp only [R.ok.injEq] at h2; subst h2
    rw [Poly.ev_times, E.sub_ev hs hx, Mono.sub_ev hs hy, Mono.ev, ← Int.mul_assoc, Int.mul_comm (e.ev _), Int.mul_assoc]
    rfl

def Poly.sub (F : Facts) (σ : List Poly) : Poly → R Poly
  | [] => .ok []
  | [(m, c)] => Mono.sub F σ c m
  | (m, c) :: p => (Mono.sub F σ c m).bind fun x => (Poly.sub F σ p).bind fun y => .ok (Poly.plus x y)
theorem Poly.sub_ev {ρ : Env} {F : Facts} (hs : Sat ρ F) {σ : List Poly} : ∀ {p q : Poly}, Poly.sub F σ p = .ok q → Poly.ev ρ q = Poly.ev (ρ.sub σ) p
  | [], q, h => by simp only [Poly.sub, R.ok.injEq] at h; subst h; rfl
  | [(m, c)], q, h => by
    simp only [Poly.sub] at h
    rw [Mono.sub_ev hs h]; simp [Poly.ev]
  | (m, c) :: a :: p, q, h => by
    simp only [Poly.sub] at h
    obtain ⟨x, hx, h1⟩ := R.bind_ok h
    obtain ⟨y, hy, h2⟩ := R.bind_ok h1
    simp only [R.ok.injEq] at h2; subst h2
    rw [Poly.ev_plus, Mono.sub_ev hs hx, Poly.sub_ev hs hy, Poly.ev]
    rfl

mutual
def SV.sub (F : Facts) (σ : List Poly) : SV → R SV
  | .int k p => (Poly.sub F σ p).bind fun q => .ok (.int k q)
  | .bool b => .ok (.bool b)
  | .agg l => (SV.subL F σ l).bind fun m => .ok (.agg m)
  | .tuple l => (SV.subL F σ l).bind fun m => .ok (.tuple m)
  | .raw v => .ok (.raw v)
  | _ => .fail "put in: a place"
def SV.subL (F : Facts) (σ : List Poly) : List SV → R (List SV)
  | [] => .ok []
  | v :: l => (SV.sub F σ v).bind fun u => (SV.subL F σ l).bind fun m => .ok (u :: m)
end
/-- The valuation put in. -/
def Den.sub (D : Den) (σ : List Poly) : Den := { D with env := D.env.sub σ }
mutual
theorem SV.sub_den {D : Den} {F : Facts} (hs : Sat D.env F) {σ : List Poly} {μ ν : Mu} : ∀ {v u : SV}, v.sub F σ = .ok u → u.den D μ = v.den (D.sub σ) ν
  | .int k p, u, h => by
    simp only [SV.sub] at h
    obtain ⟨x, hx, h1⟩ := R.bind_ok h
    simp only [R.ok.injEq] at h1; subst h1
    simp only [SV.den, Poly.sub_ev hs hx, Den.sub]
  | .bool b, u, h => by simp only [SV.sub, R.ok.injEq] at h; subst h; rfl
  | .agg l, u, h => by
    simp only [SV.sub] at h
    obtain ⟨x, hx, h1⟩ := R.bind_ok h
    simp only [R.ok.injEq] at h1; subst h1
    simp only [SV.den, SV.subL_den hs (ν := ν) hx]
  | .tuple l, u, h => by
    simp only [SV.sub] at h
    obtain ⟨x, hx, h1⟩ := R.bind_ok h
    simp only [R.ok.injEq] at h1; subst h1
    simp only [SV.den, SV.subL_den hs (ν := ν) hx]
  | .raw v, u, h => by simp only [SV.sub, R.ok.injEq] at h; subst h; rfl
  | .ptr _ _, u, h => by simp [SV.sub] at h
  | .xptr _ _, u, h => by simp [SV.sub] at h
  | .slice _ _ _ _ _, u, h => by simp [SV.sub] at h
  | .xslice _ _ _ _, u, h => by simp [SV.sub] at h
  | .xlen _ _, u, h => by simp [SV.sub] at h
  | .func _ _ _, u, h => by simp [SV.sub] at h
theorem SV.subL_den {D : Den} {F : Facts} (hs : Sat D.env F) {σ : List Poly} {μ ν : Mu} : ∀ {l m : List SV}, SV.subL F σ l = .ok m → SV.denL D μ m = SV.denL (D.sub σ) ν l
  | [], m, h => by simp only [SV.subL, R.ok.injEq] at h; subst h; rfl
  | v :: l, m, h => by
    simp only [SV.subL] at h
    obtain ⟨x, hx, h1⟩ := R.bind_ok h
    obtain ⟨y, hy, h2⟩ := R.bind_ok h1
    simp only [R.ok.injEq] at h2; subst h2
    simp only [SV.denL, SV.sub_den hs (ν := ν) hx, SV.subL_den hs (ν := ν) hy]
end

/-! ### Trees -/
inductive STree where
  | leaf (v : SV)
  | test (q : Quest) (a b : STree)

def Quest.test (ρ : Env) : Quest → Bool
  | .le p => decide (Poly.ev ρ p ≤ 0)
  | .eq p => decide (Poly.ev ρ p = 0)
def STree.ev (D : Den) : STree → Option Value
  | .leaf v => v.den D (fun _ => none)
  | .test q a b => match q.test D.env with
    | true => a.ev D
    | false => b.ev D

def Quest.dec (F : Facts) (σ : List Poly) : Quest → R Bool
  | .le p => (Poly.sub F σ p).bind fun q => decLe F q
  | .eq p => (Poly.sub F σ p).bind fun q => decEq F q
theorem Quest.dec_ok {ρ : Env} {F : Facts} (hs : Sat ρ F) {σ : List Poly} {q : Quest} {b : Bool} (h : q.dec F σ = .ok b) : q.test (ρ.sub σ) = b := by
  cases q with
  | le p =>
    obtain ⟨x, hx, h1⟩ := R.bind_ok h
    have := decLe_ok hs h1
    rw [Poly.sub_ev hs hx] at this
    exact this
  | eq p =>
    obtain ⟨x, hx, h1⟩ := R.bind_ok h
    have := decEq_ok hs h1
    rw [Poly.sub_ev hs hx] at this
    exact this
def STree.run (F : Facts) (σ : List Poly) : STree → R SV
  | .leaf v => v.sub F σ
  | .test q a b => (q.dec F σ).bind fun c => Bool.casesOn (motive := fun _ => R SV) c (b.run F σ) (a.run F σ)
theorem STree.run_ok {D : Den} {F : Facts} (hs : Sat D.env F) {σ : List Poly} {μ : Mu} : ∀ {t : STree} {v : SV}, t.run F σ = .ok v → v.den D μ = t.ev (D.sub σ)
  | .leaf u, v, h => SV.sub_den hs h
  | .test q a b, v, h => by
    simp only [STree.run] at h
    obtain ⟨c, hc, h1⟩ := R.bind_ok h
    have h2 := Quest.dec_ok hs hc
    have h3 : q.test (D.sub σ).env = c := h2
    simp only [STree.ev, h3]
    cases c
    · exact STree.run_ok hs h1
    · exact STree.run_ok hs h1

/-- A summary: the arguments as they are taken, the kinds of the variables in them, the tree. -/
structure Summ where
  args : List SV
  l : List Iv
  tree : STree

/-- The rows of memory that was there name no variable. -/
def Closed0 (X : Nat → List SV) : Prop := ∀ (i j : Nat) v, (X i)[j]? = some v → ∀ D D' : Den, v.den D (fun _ => none) = v.den D' (fun _ => none)

/-- The summary tells what the function comes to, wherever the laid variables are as laid. -/
def SumOk (P : Program) (X : Nat → List SV) (gx : Nat → Option Nat) (g : FuncId) (m : Summ) : Prop :=
  ∀ (D : Den) (w : World), BaseOk ⟨w, X⟩ D → D.env.f = stdF → (∀ g i, gx g = some i → D.xi i = ⟨g, 0, none⟩) → (∀ (i : Nat) (k : Iv), m.l[i]? = some k → k.has (D.env.v i)) →
  ∀ ARGS, SV.denL D (fun _ => none) m.args = some ARGS → Calls P g ARGS.toArray w fun e w' => ∃ V, e = .returned V ∧ m.tree.ev D = some V ∧ Below w.heap.size w w'

/-! ### The arguments' numbers -/
mutual
def SV.flat : SV → List Poly → List Poly
  | .int _ p, r => p :: r
  | .agg l, r => SV.flatL l r
  | .tuple l, r => SV.flatL l r
  | _, r => r
def SV.flatL : List SV → List Poly → List Poly
  | [], r => r
  | v :: l, r => SV.flat v (SV.flatL l r)
end
def inKinds (F : Facts) : List Iv → List Poly → Bool
  | [], [] => true
  | k :: l, p :: σ => match Poly.bnd F p with
    | some v => match ile k.lo v.lo && ile v.hi k.hi with
      | true => inKinds F l σ
      | false => false
    | none => false
  | _, _ => false
theorem ivT_of {k : IntKind} {n : Int} (h : (ivT k).has n) : k.min ≤ n ∧ n ≤ k.max := by
  cases k <;> simp [ivT, Iv.has, IntKind.min, IntKind.max, IntKind.signed, IntKind.bits] at h ⊢ <;> omega
theorem inKinds_ok {ρ : Env} {F : Facts} (hs : Sat ρ F) : ∀ {l : List Iv} {σ : List Poly}, inKinds F l σ = true → ∀ (i : Nat) (k : Iv), l[i]? = some k → k.has ((ρ.sub σ).v i)
  | [], [], _, i, k, h => by simp at h
  | c :: l, p :: σ, h, i, k, hk => by
    simp only [inKinds] at h
    split at h
    · rename_i v hv
      split at h
      · rename_i hle
        rw [Bool.and_eq_true] at hle
        have hb := Poly.bnd_has hs p
        rw [hv] at hb
        obtain ⟨h1, h2⟩ := hb v rfl
        cases i with
        | zero =>
          simp only [List.getElem?_cons_zero, Option.some.injEq] at hk
          subst hk
          exact ⟨Int.le_trans (ile_iff.1 hle.1) h1, Int.le_trans h2 (ile_iff.1 hle.2)⟩
        | succ i => exact inKinds_ok hs h i k (by simpa using hk)
      · simp at h
    · simp at h
  | [], _ :: _, h, _, _, _ => by simp [inKinds] at h
  | _ :: _, [], h, _, _, _ => by simp [inKinds] at h

end Go.Sym

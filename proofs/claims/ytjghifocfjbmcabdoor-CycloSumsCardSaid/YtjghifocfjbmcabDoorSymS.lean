/- SymGo, summaries: what a function comes to, as a tree of tests on its arguments' numbers; the numbers put in; what it is for a summary to hold. -/
import Derived.Test.YtjghifocfjbmcabDoorSym3
import Derived.Below
namespace Go.Sym
open Go.RowKit

/-! ### Numbers put in for the variables -/
def nthP : List Poly → Nat → Poly
  | [], _ => []
  | p :: l, n => Bool.casesOn (motive := fun _ => Poly) (Nat.beq n 0) (nthP l (Nat.pred n)) p
/-- The valuation of the variables that the polynomials make. -/
def Env.sub (ρ : Env) (σ : List Poly) : Env := { v := fun i => Poly.ev ρ (nthP σ i), f := ρ.f }

def E.sub (F : Facts) (σ : List Poly) : E → R Poly
  | .lit n => .ok (Poly.lit n)
  | .var i => .ok (nthP σ i)
  | .add a b => (a.sub F σ).bind fun p => (b.sub F σ).bind fun q => .ok (Poly.plus p q)
  | .mul a b => (a.sub F σ).bind fun p => (b.sub F σ).bind fun q => .ok (Poly.times p q)
  | .rem a b => (a.sub F σ).bind fun p => (b.sub F σ).bind fun q => .ok (remP F p q)
  | .quo a b => (a.sub F σ).bind fun p => (b.sub F σ).bind fun q => .ok (quoP F p q)
  | .fdiv a b => match b with
    | .lit n => (a.sub F σ).bind fun p => .ok (fdivP F p n)
    | b => (a.sub F σ).bind fun p => (b.sub F σ).bind fun q => .ok (fdivQ F p q)
  | .wrap k a => (a.sub F σ).bind fun p => .ok (wrapP F k p)
  | .app f a b c => (a.sub F σ).bind fun p => (b.sub F σ).bind fun q => (c.sub F σ).bind fun r => .ok (appP F f p q r)
  | .emod m a => (a.sub F σ).bind fun p => .ok (emodP F m p)
theorem E.sub_ev {ρ : Env} {F : Facts} (hs : Sat ρ F) {σ : List Poly} : ∀ {e : E} {p : Poly}, e.sub F σ = .ok p → Poly.ev ρ p = e.ev (ρ.sub σ)
  | .lit n, p, h => by simp only [E.sub, R.ok.injEq] at h; subst h; rw [Poly.ev_lit]; rfl
  | .var i, p, h => by simp only [E.sub, R.ok.injEq] at h; subst h; rfl
  | .add a b, p, h => by
    obtain ⟨x, hx, h1⟩ := R.bind_ok h
    obtain ⟨y, hy, h2⟩ := R.bind_ok h1
    simp only [R.ok.injEq] at h2; subst h2
    rw [Poly.ev_plus, E.sub_ev hs hx, E.sub_ev hs hy, E.ev_add]
  | .mul a b, p, h => by
    obtain ⟨x, hx, h1⟩ := R.bind_ok h
    obtain ⟨y, hy, h2⟩ := R.bind_ok h1
    simp only [R.ok.injEq] at h2; subst h2
    rw [Poly.ev_times, E.sub_ev hs hx, E.sub_ev hs hy, E.ev_mul]
  | .rem a b, p, h => by
    obtain ⟨x, hx, h1⟩ := R.bind_ok h
    obtain ⟨y, hy, h2⟩ := R.bind_ok h1
    simp only [R.ok.injEq] at h2; subst h2
    rw [remP_ev hs, E.sub_ev hs hx, E.sub_ev hs hy, E.ev_rem]
  | .quo a b, p, h => by
    obtain ⟨x, hx, h1⟩ := R.bind_ok h
    obtain ⟨y, hy, h2⟩ := R.bind_ok h1
    simp only [R.ok.injEq] at h2; subst h2
    rw [quoP_ev hs, E.sub_ev hs hx, E.sub_ev hs hy, E.ev_quo]
  | .fdiv a b, p, h => by
    unfold E.sub at h
    split at h
    · rename_i n
      obtain ⟨x, hx, h1⟩ := R.bind_ok h
      simp only [R.ok.injEq] at h1; subst h1
      rw [fdivP_ev hs, E.sub_ev hs hx, E.ev_fdiv, E.ev_lit]
    · obtain ⟨x, hx, h1⟩ := R.bind_ok h
      obtain ⟨y, hy, h2⟩ := R.bind_ok h1
      simp only [R.ok.injEq] at h2; subst h2
      rw [fdivQ_ev hs, E.sub_ev hs hx, E.sub_ev hs hy, E.ev_fdiv]
  | .wrap k a, p, h => by
    obtain ⟨x, hx, h1⟩ := R.bind_ok h
    simp only [R.ok.injEq] at h1; subst h1
    rw [wrapP_ev hs, E.sub_ev hs hx, E.ev_wrap]
  | .app f a b c, p, h => by
    obtain ⟨x, hx, h1⟩ := R.bind_ok h
    obtain ⟨y, hy, h2⟩ := R.bind_ok h1
    obtain ⟨z, hz, h3⟩ := R.bind_ok h2
    simp only [R.ok.injEq] at h3; subst h3
    rw [appP_ev hs, E.sub_ev hs hx, E.sub_ev hs hy, E.sub_ev hs hz, E.ev_app]
    rfl
  | .emod m a, p, h => by
    obtain ⟨x, hx, h1⟩ := R.bind_ok h
    simp only [R.ok.injEq] at h1; subst h1
    rw [emodP_ev hs, E.sub_ev hs hx, E.ev_emod]

def Mono.sub (F : Facts) (σ : List Poly) (c : Int) : Mono → R Poly
  | [] => .ok (Poly.lit c)
  | [e] => (e.sub F σ).bind fun p => match c with
      | .ofNat 1 => .ok p
      | c => .ok (Poly.times (Poly.lit c) p)
  | e :: m => (e.sub F σ).bind fun p => (Mono.sub F σ c m).bind fun q => .ok (Poly.times p q)
theorem Mono.sub_ev {ρ : Env} {F : Facts} (hs : Sat ρ F) {σ : List Poly} {c : Int} : ∀ {m : Mono} {p : Poly}, Mono.sub F σ c m = .ok p → Poly.ev ρ p = c * Mono.ev (ρ.sub σ) m
  | [], p, h => by simp only [Mono.sub, R.ok.injEq] at h; subst h; rw [Poly.ev_lit, Mono.ev, Int.mul_one]
  | [e], p, h => by
    simp only [Mono.sub] at h
    obtain ⟨x, hx, h1⟩ := R.bind_ok h
    split at h1
    · simp only [R.ok.injEq] at h1; subst h1
      rw [E.sub_ev hs hx]
      simp [Mono.ev]
    · simp only [R.ok.injEq] at h1; subst h1
      rw [Poly.ev_times, Poly.ev_lit, E.sub_ev hs hx]
      simp [Mono.ev]
  | e :: a :: m, p, h => by
    simp only [Mono.sub] at h
    obtain ⟨x, hx, h1⟩ := R.bind_ok h
    obtain ⟨y, hy, h2⟩ := R.bind_ok h1
    simp only [R.ok.injEq] at h2; subst h2
    rw [Poly.ev_times, E.sub_ev hs hx, Mono.sub_ev hs hy, Mono.ev, ← Int.mul_assoc, Int.mul_comm (e.ev _), Int.mul_assoc]
    rfl

def Poly.sub (F : Facts) (σ : List Poly) : Poly → R Poly
  | [] => .ok []
  | [(m, c)] => Mono.sub F σ c m
  | (m, c) :: p => (Mono.sub F σ c m).bind fun x => (Poly.sub F σ p).bind fun y => .ok (Poly.plus x y)
theorem Poly.sub_ev {ρ : Env} {F : Facts} (hs : Sat ρ F) {σ : List Poly} : ∀ {p q : Poly}, Poly.sub F σ p = .ok q → Poly.ev ρ q = Poly.ev (ρ.sub σ) p
  | [], q, h => by simp only [Poly.sub, R.ok.injEq] at h; subst h; rfl
  | [(m, c)], q, h => by
    simp only [Poly.sub] at h
    rw [Mono.sub_ev hs h]; simp [Poly.ev]
  | (m, c) :: a :: p, q, h => by
    simp only [Poly.sub] at h
    obtain ⟨x, hx, h1⟩ := R.bind_ok h
    obtain ⟨y, hy, h2⟩ := R.bind_ok h1
    simp only [R.ok.injEq] at h2; subst h2
    rw [Poly.ev_plus, Mono.sub_ev hs hx, Poly.sub_ev hs hy, Poly.ev]
    rfl

mutual
def SV.sub (F : Facts) (σ : List Poly) : SV → R SV
  | .int k p => (Poly.sub F σ p).bind fun q => .ok (.int k q)
  | .bool b => .ok (.bool b)
  | .agg l => (SV.subL F σ l).bind fun m => .ok (.agg m)
  | .tuple l => (SV.subL F σ l).bind fun m => .ok (.tuple m)
  | .raw v => .ok (.raw v)
  | _ => .fail "put in: a place"
def SV.subL (F : Facts) (σ : List Poly) : List SV → R (List SV)
  | [] => .ok []
  | v :: l => (SV.sub F σ v).bind fun u => (SV.subL F σ l).bind fun m => .ok (u :: m)
end
/-- The valuation put in. -/
def Den.sub (D : Den) (σ : List Poly) : Den := { D with env := D.env.sub σ }
mutual
theorem SV.sub_den {D D' : Den} {F : Facts} (hs : Sat D.env F) {σ : List Poly} (hD : D'.env = D.env.sub σ) {μ ν : Mu} : ∀ {v u : SV}, v.sub F σ = .ok u → u.den D μ = v.den D' ν
  | .int k p, u, h => by
    simp only [SV.sub] at h
    obtain ⟨x, hx, h1⟩ := R.bind_ok h
    simp only [R.ok.injEq] at h1; subst h1
    simp only [SV.den, Poly.sub_ev hs hx, hD]
  | .bool b, u, h => by simp only [SV.sub, R.ok.injEq] at h; subst h; rfl
  | .agg l, u, h => by
    simp only [SV.sub] at h
    obtain ⟨x, hx, h1⟩ := R.bind_ok h
    simp only [R.ok.injEq] at h1; subst h1
    simp only [SV.den, SV.subL_den hs hD (ν := ν) hx]
  | .tuple l, u, h => by
    simp only [SV.sub] at h
    obtain ⟨x, hx, h1⟩ := R.bind_ok h
    simp only [R.ok.injEq] at h1; subst h1
    simp only [SV.den, SV.subL_den hs hD (ν := ν) hx]
  | .raw v, u, h => by simp only [SV.sub, R.ok.injEq] at h; subst h; rfl
  | .ptr _ _, u, h => by simp [SV.sub] at h
  | .xptr _ _, u, h => by simp [SV.sub] at h
  | .slice _ _ _ _ _, u, h => by simp [SV.sub] at h
  | .xslice _ _ _ _, u, h => by simp [SV.sub] at h
  | .xlen _ _, u, h => by simp [SV.sub] at h
  | .aslice _ _ _, u, h => by simp [SV.sub] at h
  | .oslice _ _, u, h => by simp [SV.sub] at h
  | .func _ _ _, u, h => by simp [SV.sub] at h
theorem SV.subL_den {D D' : Den} {F : Facts} (hs : Sat D.env F) {σ : List Poly} (hD : D'.env = D.env.sub σ) {μ ν : Mu} : ∀ {l m : List SV}, SV.subL F σ l = .ok m → SV.denL D μ m = SV.denL D' ν l
  | [], m, h => by simp only [SV.subL, R.ok.injEq] at h; subst h; rfl
  | v :: l, m, h => by
    simp only [SV.subL] at h
    obtain ⟨x, hx, h1⟩ := R.bind_ok h
    obtain ⟨y, hy, h2⟩ := R.bind_ok h1
    simp only [R.ok.injEq] at h2; subst h2
    simp only [SV.denL, SV.sub_den hs hD (ν := ν) hx, SV.subL_den hs hD (ν := ν) hy]
end

mutual
/-- Does the value name no place? -/
def SV.plain : SV → Bool
  | .int _ _ => true
  | .bool _ => true
  | .agg l => SV.plainL l
  | .tuple l => SV.plainL l
  | .raw _ => true
  | _ => false
def SV.plainL : List SV → Bool
  | [] => true
  | v :: l => Bool.casesOn (motive := fun _ => Bool) (SV.plain v) false (SV.plainL l)
end
mutual
theorem SV.plain_den {D : Den} {μ ν : Mu} : ∀ {v : SV}, v.plain = true → v.den D μ = v.den D ν
  | .int _ _, _ => rfl
  | .bool _, _ => rfl
  | .agg l, h => by simp only [SV.den, SV.plainL_den (μ := μ) (ν := ν) (show SV.plainL l = true from h)]
  | .tuple l, h => by simp only [SV.den, SV.plainL_den (μ := μ) (ν := ν) (show SV.plainL l = true from h)]
  | .raw _, _ => rfl
  | .ptr _ _, h => by simp [SV.plain] at h
  | .xptr _ _, h => by simp [SV.plain] at h
  | .slice _ _ _ _ _, h => by simp [SV.plain] at h
  | .xslice _ _ _ _, h => by simp [SV.plain] at h
  | .xlen _ _, h => by simp [SV.plain] at h
  | .aslice _ _ _, h => by simp [SV.plain] at h
  | .oslice _ _, h => by simp [SV.plain] at h
  | .func _ _ _, h => by simp [SV.plain] at h
theorem SV.plainL_den {D : Den} {μ ν : Mu} : ∀ {l : List SV}, SV.plainL l = true → SV.denL D μ l = SV.denL D ν l
  | [], _ => rfl
  | v :: l, h => by
    simp only [SV.plainL] at h
    cases hv : v.plain
    · rw [hv] at h; simp at h
    · rw [hv] at h
      simp only [SV.denL, SV.plain_den (μ := μ) (ν := ν) hv, SV.plainL_den (μ := μ) (ν := ν) h]
end

/-! ### Trees -/
/-- `leafM`: the value names blocks that the call has made; they are listed by their numbers. -/
inductive STree where
  | leaf (v : SV)
  | leafM (v : SV) (bl : List (Nat × SBlk))
  | test (q : Quest) (a b : STree)

def Quest.test (ρ : Env) : Quest → Bool
  | .le p => decide (Poly.ev ρ p ≤ 0)
  | .eq p => decide (Poly.ev ρ p = 0)
def STree.at (ρ : Env) : STree → SV × List (Nat × SBlk)
  | .leaf v => (v, [])
  | .leafM v bl => (v, bl)
  | .test q a b => match q.test ρ with
    | true => a.at ρ
    | false => b.at ρ
def STree.ev (D : Den) : STree → Option Value
  | .leaf v => v.den D (fun _ => none)
  | .leafM _ _ => none
  | .test q a b => match q.test D.env with
    | true => a.ev D
    | false => b.ev D
/-- No leaf names a place. -/
def STree.plainT : STree → Bool
  | .leaf v => v.plain
  | .leafM _ _ => false
  | .test _ a b => Bool.casesOn (motive := fun _ => Bool) a.plainT false b.plainT
theorem STree.plainT_at {D : Den} : ∀ {t : STree}, t.plainT = true → (t.at D.env).2 = [] ∧ ∀ μ, (t.at D.env).1.den D μ = t.ev D
  | .leaf v, h => ⟨rfl, fun μ => SV.plain_den h⟩
  | .leafM _ _, h => by simp [STree.plainT] at h
  | .test q a b, h => by
    simp only [STree.plainT] at h
    cases ha : a.plainT
    · rw [ha] at h; simp at h
    · rw [ha] at h
      simp only [STree.at, STree.ev]
      cases q.test D.env
      · exact STree.plainT_at h
      · exact STree.plainT_at ha

def Quest.dec (F : Facts) (σ : List Poly) : Quest → R Bool
  | .le p => (Poly.sub F σ p).bind fun q => decLe F q
  | .eq p => (Poly.sub F σ p).bind fun q => decEq F q
theorem Quest.dec_ok {ρ : Env} {F : Facts} (hs : Sat ρ F) {σ : List Poly} {q : Quest} {b : Bool} (h : q.dec F σ = .ok b) : q.test (ρ.sub σ) = b := by
  cases q with
  | le p =>
    obtain ⟨x, hx, h1⟩ := R.bind_ok h
    have := decLe_ok hs h1
    rw [Poly.sub_ev hs hx] at this
    exact this
  | eq p =>
    obtain ⟨x, hx, h1⟩ := R.bind_ok h
    have := decEq_ok hs h1
    rw [Poly.sub_ev hs hx] at this
    exact this

theorem blt_iff {a b : Nat} : Nat.blt a b = true ↔ a < b := by simp [Nat.blt, Nat.ble_eq, Nat.lt_iff_add_one_le]
/-! ### Blocks that a call has made -/
def putAll (H : Tree SBlk) (k : Nat) : List (Nat × SBlk) → Tree SBlk
  | [] => H
  | x :: l => (putAll H k l).set (Nat.add k x.1) x.2
def idsTop : List (Nat × SBlk) → Nat
  | [] => 0
  | x :: l => Bool.casesOn (motive := fun _ => Nat) (Nat.blt x.1 (idsTop l)) (Nat.succ x.1) (idsTop l)
def stM (bl : List (Nat × SBlk)) : St := ⟨putAll .leaf 0 bl, idsTop bl⟩
def addBl (s : St) : List (Nat × SBlk) → St
  | [] => s
  | bl => ⟨putAll s.H s.n bl, Nat.add s.n (idsTop bl)⟩
mutual
/-- The numbers put in; the numbers of the call's own blocks moved on. -/
def SV.subM (F : Facts) (σ : List Poly) (k : Nat) : SV → R SV
  | .slice id off len cap u => .ok (.slice (Nat.add k id) off len cap u)
  | .oslice id len => .ok (.oslice (Nat.add k id) len)
  | .ptr id off => .ok (.ptr (Nat.add k id) off)
  | .agg l => (SV.subML F σ k l).bind fun m => .ok (.agg m)
  | .tuple l => (SV.subML F σ k l).bind fun m => .ok (.tuple m)
  | v => v.sub F σ
def SV.subML (F : Facts) (σ : List Poly) (k : Nat) : List SV → R (List SV)
  | [] => .ok []
  | v :: l => (SV.subM F σ k v).bind fun u => (SV.subML F σ k l).bind fun m => .ok (u :: m)
end
mutual
theorem SV.subM_den {D D' : Den} {F : Facts} (hs : Sat D.env F) {σ : List Poly} (hD : D'.env = D.env.sub σ) {k : Nat} {μ ν : Mu} (hν : ∀ i, ν (k + i) = μ i) : ∀ {v u : SV}, v.subM F σ k = .ok u → u.den D ν = v.den D' μ
  | .slice id off len cap b, u, h => by simp only [SV.subM, R.ok.injEq] at h; subst h; simp only [SV.den]; rw [show Nat.add k id = k + id from rfl, hν]
  | .ptr id off, u, h => by simp only [SV.subM, R.ok.injEq] at h; subst h; simp only [SV.den]; rw [show Nat.add k id = k + id from rfl, hν]
  | .oslice id len, u, h => by simp only [SV.subM, R.ok.injEq] at h; subst h; simp only [SV.den]; rw [show Nat.add k id = k + id from rfl, hν]
  | .agg l, u, h => by
    simp only [SV.subM] at h
    obtain ⟨x, hx, h1⟩ := R.bind_ok h
    simp only [R.ok.injEq] at h1; subst h1
    simp only [SV.den, SV.subML_den hs hD hν hx]
  | .tuple l, u, h => by
    simp only [SV.subM] at h
    obtain ⟨x, hx, h1⟩ := R.bind_ok h
    simp only [R.ok.injEq] at h1; subst h1
    simp only [SV.den, SV.subML_den hs hD hν hx]
  | .int k p, u, h => SV.sub_den hs hD h
  | .bool b, u, h => SV.sub_den hs hD h
  | .raw v, u, h => SV.sub_den hs hD h
  | .xptr _ _, u, h => SV.sub_den hs hD h
  | .xslice _ _ _ _, u, h => SV.sub_den hs hD h
  | .xlen _ _, u, h => SV.sub_den hs hD h
  | .aslice _ _ _, u, h => SV.sub_den hs hD h
  | .func _ _ _, u, h => SV.sub_den hs hD h
theorem SV.subML_den {D D' : Den} {F : Facts} (hs : Sat D.env F) {σ : List Poly} (hD : D'.env = D.env.sub σ) {k : Nat} {μ ν : Mu} (hν : ∀ i, ν (k + i) = μ i) : ∀ {l m : List SV}, SV.subML F σ k l = .ok m → SV.denL D ν m = SV.denL D' μ l
  | [], m, h => by simp only [SV.subML, R.ok.injEq] at h; subst h; rfl
  | v :: l, m, h => by
    simp only [SV.subML] at h
    obtain ⟨x, hx, h1⟩ := R.bind_ok h
    obtain ⟨y, hy, h2⟩ := R.bind_ok h1
    simp only [R.ok.injEq] at h2; subst h2
    simp only [SV.denL, SV.subM_den hs hD hν hx, SV.subML_den hs hD hν hy]
end
def subBl (F : Facts) (σ : List Poly) : List (Nat × SBlk) → R (List (Nat × SBlk))
  | [] => .ok []
  | x :: l => (SV.subL F σ x.2.cells).bind fun cs => (subBl F σ l).bind fun m => .ok ((x.1, ⟨cs, x.2.kind⟩) :: m)
theorem subBl_top {F : Facts} {σ : List Poly} : ∀ {bl bl' : List (Nat × SBlk)}, subBl F σ bl = .ok bl' → idsTop bl' = idsTop bl
  | [], _, h => by simp only [subBl, R.ok.injEq] at h; subst h; rfl
  | x :: l, _, h => by
    obtain ⟨cs, h1, h2⟩ := R.bind_ok h
    obtain ⟨m, h3, h4⟩ := R.bind_ok h2
    simp only [R.ok.injEq] at h4; subst h4
    simp only [idsTop, subBl_top h3]
theorem subL_length {F : Facts} {σ : List Poly} : ∀ {l m : List SV}, SV.subL F σ l = .ok m → m.length = l.length
  | [], m, h => by simp only [SV.subL, R.ok.injEq] at h; subst h; rfl
  | v :: l, m, h => by
    simp only [SV.subL] at h
    obtain ⟨x, hx, h1⟩ := R.bind_ok h
    obtain ⟨y, hy, h2⟩ := R.bind_ok h1
    simp only [R.ok.injEq] at h2; subst h2
    simp [subL_length hy]
theorem subBl_get {D D' : Den} {F : Facts} (hs : Sat D.env F) {σ : List Poly} (hD : D'.env = D.env.sub σ) {H : Tree SBlk} {k : Nat} : ∀ {bl bl' : List (Nat × SBlk)}, subBl F σ bl = .ok bl' → ∀ {i : Nat} {b : SBlk}, (putAll .leaf 0 bl).get i = some b →
    ∃ b', (putAll H k bl').get (k + i) = some b' ∧ b'.kind = b.kind ∧ b'.cells.length = b.cells.length ∧ ∀ ν μ : Mu, SV.denL D ν b'.cells = SV.denL D' μ b.cells
  | [], _, h, i, b, hb => by simp [putAll, Tree.get] at hb
  | x :: l, _, h, i, b, hb => by
    obtain ⟨cs, h1, h2⟩ := R.bind_ok h
    obtain ⟨m, h3, h4⟩ := R.bind_ok h2
    simp only [R.ok.injEq] at h4; subst h4
    simp only [putAll, Tree.get_set] at hb ⊢
    by_cases e : i = x.1
    · subst e
      rw [if_pos (by simp)] at hb
      simp only [Option.some.injEq] at hb
      subst hb
      exact ⟨⟨cs, x.2.kind⟩, by rw [if_pos (show k + x.1 = Nat.add k x.1 from rfl)], rfl, subL_length h1, fun ν μ => SV.subL_den hs hD h1⟩
    · rw [if_neg (by simpa using e)] at hb
      obtain ⟨b', g1, g2⟩ := subBl_get hs hD (H := H) (k := k) h3 hb
      exact ⟨b', by rw [if_neg (by show ¬ k + i = k + x.1; omega)]; exact g1, g2⟩
theorem putAll_old {H : Tree SBlk} {k : Nat} : ∀ (bl : List (Nat × SBlk)) {i : Nat}, i < k → (putAll H k bl).get i = H.get i
  | [], _, _ => rfl
  | x :: l, i, hi => by
    simp only [putAll, Tree.get_set]
    rw [if_neg (by show ¬ i = k + x.1; omega), putAll_old l hi]
theorem idsTop_lt : ∀ {bl : List (Nat × SBlk)} {i : Nat} {b : SBlk}, (putAll .leaf 0 bl).get i = some b → i < idsTop bl
  | [], i, b, h => by simp [putAll, Tree.get] at h
  | x :: l, i, b, h => by
    simp only [putAll, Tree.get_set] at h
    simp only [idsTop]
    have hx : x.1 < idsTop l ∨ ¬ x.1 < idsTop l := Decidable.em _
    by_cases e : i = x.1
    · rcases hx with hx | hx
      · rw [show Nat.blt x.1 (idsTop l) = true from blt_iff.2 hx]; show i < idsTop l; omega
      · have : Nat.blt x.1 (idsTop l) = false := by cases hb : Nat.blt x.1 (idsTop l); rfl; exact absurd (blt_iff.1 hb) hx
        rw [this]; show i < x.1 + 1; omega
    · rw [if_neg (by simpa using e)] at h
      have := idsTop_lt h
      rcases hx with hx | hx
      · rw [show Nat.blt x.1 (idsTop l) = true from blt_iff.2 hx]; exact this
      · have h2 : Nat.blt x.1 (idsTop l) = false := by cases hb : Nat.blt x.1 (idsTop l); rfl; exact absurd (blt_iff.1 hb) hx
        rw [h2]; show i < x.1 + 1; omega

/-- What a call with a summary has made is put to what the caller has. -/
theorem Rep.merge {B : Base} {D : Den} {μ : Mu} {s : St} {w : World} (h : Rep B D μ s w) {X' : Nat → List SV} {D' : Den} {μ' : Mu} {bl bl' : List (Nat × SBlk)} {w' : World} {F : Facts} {σ : List Poly} (hs : Sat D.env F) (hD : D'.env = D.env.sub σ)
    (h' : Rep ⟨w, X'⟩ D' μ' (stM bl) w') (hbl : subBl F σ bl = .ok bl') :
    ∃ ν : Mu, (s.n ≤ (addBl s bl').n ∧ MuLe μ ν ∧ ∀ i, i < s.n → ν i = μ i) ∧ (∀ i, ν (s.n + i) = μ' i) ∧ Rep B D ν (addBl s bl') w' := by
  let ν : Mu := fun i => if i < s.n then μ i else μ' (i - s.n)
  have lo : ∀ i, i < s.n → ν i = μ i := fun i hi => if_pos hi
  have hi' : ∀ i, ν (s.n + i) = μ' i := fun i => by show (if s.n + i < s.n then _ else _) = _; rw [if_neg (by omega), Nat.add_sub_cancel_left]
  have hle : MuLe μ ν := fun i b hb => by rw [lo i (h.rng i b hb).2.2]; exact hb
  have hn : (addBl s bl').n = s.n + idsTop bl := by
    rw [← subBl_top hbl]
    cases bl' with
    | nil => rfl
    | cons x l => rfl
  have hH : (addBl s bl').H = putAll s.H s.n bl' := by
    cases bl' with
    | nil => rfl
    | cons x l => rfl
  have up : ∀ i b, ν i = some b → (i < s.n ∧ μ i = some b) ∨ ∃ j, i = s.n + j ∧ μ' j = some b := fun i b hb => by
    by_cases e : i < s.n
    · rw [lo i e] at hb; exact .inl ⟨e, hb⟩
    · exact .inr ⟨i - s.n, by omega, by rw [← hi' (i - s.n), show s.n + (i - s.n) = i by omega]; exact hb⟩
  have gl : ∀ i, i < s.n → (addBl s bl').H.get i = s.H.get i := fun i hi => by rw [hH, putAll_old bl' hi]
  have gu : ∀ j b k, μ' j = some b → (stM bl).H.get j = some k → ∃ k', (addBl s bl').H.get (s.n + j) = some k' ∧ k'.kind = k.kind ∧ k'.cells.length = k.cells.length ∧ ∀ ν μ : Mu, SV.denL D ν k'.cells = SV.denL D' μ k.cells := fun j b k hb hk => by
    rw [hH]; exact subBl_get hs hD hbl hk
  refine ⟨ν, ⟨by rw [hn]; omega, hle, lo⟩, hi', ?_⟩
  refine ⟨h'.os.trans h.os, h'.tape.trans h.tape, h'.output.trans h.output, fun k hk => ?_, Nat.le_trans h.size h'.size, fun i b hb => ?_, fun i b hb => ?_, fun i j b c hb hc e => ?_, fun i b k hb hk e sz hsz hkd => ?_⟩
  · rw [h'.base k (Nat.lt_of_lt_of_le hk h.size), h.base k hk]
  · rcases up i b hb with ⟨hi, hb2⟩ | ⟨j, rfl, hb2⟩
    · obtain ⟨h1, h2, h3⟩ := h.rng i b hb2
      exact ⟨h1, Nat.lt_of_lt_of_le h2 h'.size, by rw [hn]; omega⟩
    · obtain ⟨h1, h2, h3⟩ := h'.rng j b hb2
      have : j < idsTop bl := h3
      exact ⟨Nat.le_trans h.size h1, h2, by rw [hn]; omega⟩
  · rcases up i b hb with ⟨hi, hb2⟩ | ⟨j, rfl, hb2⟩
    · obtain ⟨k, xs, rest, ty, h1, h2, h3⟩ := h.blk i b hb2
      refine ⟨k, xs, rest, ty, by rw [gl i hi]; exact h1, SV.denL_mono hle _ h2, ?_⟩
      rw [h'.base _ (h.rng i b hb2).2.1, h3]
    · obtain ⟨k, xs, rest, ty, h1, h2, h3⟩ := h'.blk j b hb2
      obtain ⟨k', g1, g2, g3, g4⟩ := gu j b k hb2 h1
      exact ⟨k', xs, rest, ty, g1, by rw [g4 ν μ']; exact h2, h3⟩
  · rcases up i b hb with ⟨hi, hb2⟩ | ⟨i', rfl, hb2⟩
    · rcases up j c hc with ⟨hj, hc2⟩ | ⟨j', rfl, hc2⟩
      · rcases h.sep i j b c hb2 hc2 e with h1 | ⟨k, l, h1, h2, h3⟩
        · exact .inl h1
        · exact .inr ⟨k, l, by rw [gl i hi]; exact h1, by rw [gl j hj]; exact h2, h3⟩
      · have h1 := (h.rng i b hb2).2.1
        have h2 := (h'.rng j' c hc2).1
        have h2 : w.heap.size ≤ c.1 := h2
        omega
    · rcases up j c hc with ⟨hj, hc2⟩ | ⟨j', rfl, hc2⟩
      · have h1 := (h.rng j c hc2).2.1
        have h2 : w.heap.size ≤ b.1 := (h'.rng i' b hb2).1
        omega
      · rcases h'.sep i' j' b c hb2 hc2 e with h1 | ⟨k, l, h1, h2, h3, h4, h5⟩
        · exact .inl (by rw [h1])
        · obtain ⟨k', g1, g2, g3, _⟩ := gu i' b k hb2 h1
          obtain ⟨l', f1, f2, f3, _⟩ := gu j' c l hc2 h2
          exact .inr ⟨k', l', g1, f1, by rw [g2]; exact h3, by rw [f2]; exact h4, by rw [g2, f2, g3, f3]; exact h5⟩
  · rcases up i b hb with ⟨hi, hb2⟩ | ⟨j, rfl, hb2⟩
    · rw [gl i hi] at hk
      obtain ⟨cur, h1, h2⟩ := h.cap i b k hb2 hk e sz hsz hkd
      exact ⟨cur, by rw [h'.base _ (h.rng i b hb2).2.1]; exact h1, h2⟩
    · obtain ⟨k0, xs, rest, ty, h1, _, _⟩ := h'.blk j b hb2
      obtain ⟨k', g1, g2, _, _⟩ := gu j b k0 hb2 h1
      rw [g1] at hk
      simp only [Option.some.injEq] at hk
      subst hk
      exact h'.cap j b k0 hb2 h1 e sz hsz (by rw [← g2]; exact hkd)
/-- Some blocks are kept, the others forgotten. -/
theorem Rep.keep {B : Base} {D : Den} {μ : Mu} {s : St} {w : World} (h : Rep B D μ s w) {bl : List (Nat × SBlk)} (hbl : ∀ i b, (putAll .leaf 0 bl).get i = some b → s.H.get i = some b ∧ SV.plainL b.cells = true) :
    Rep B D (fun i => match (putAll .leaf 0 bl).get i with | some _ => μ i | none => none) (stM bl) w := by
  have up : ∀ i b, (match (putAll .leaf 0 bl).get i with | some _ => μ i | none => none) = some b → μ i = some b ∧ ∃ k, (putAll .leaf 0 bl).get i = some k ∧ s.H.get i = some k ∧ SV.plainL k.cells = true := fun i b hb => by
    cases e : (putAll .leaf 0 bl).get i with
    | none => rw [e] at hb; simp at hb
    | some k => rw [e] at hb; exact ⟨hb, k, rfl, hbl i k e⟩
  refine ⟨h.os, h.tape, h.output, h.base, h.size, fun i b hb => ?_, fun i b hb => ?_, fun i j b c hb hc e => ?_, fun i b k hb hk e sz hsz hkd => ?_⟩
  · obtain ⟨h1, k, h2, _⟩ := up i b hb
    exact ⟨(h.rng i b h1).1, (h.rng i b h1).2.1, idsTop_lt h2⟩
  · obtain ⟨h1, k, h2, h3, h4⟩ := up i b hb
    obtain ⟨k', xs, rest, ty, g1, g2, g3⟩ := h.blk i b h1
    rw [h3] at g1
    simp only [Option.some.injEq] at g1
    subst g1
    exact ⟨k, xs, rest, ty, h2, by rw [SV.plainL_den h4]; exact g2, g3⟩
  · obtain ⟨h1, k, h2, h3, _⟩ := up i b hb
    obtain ⟨f1, l, f2, f3, _⟩ := up j c hc
    rcases h.sep i j b c h1 f1 e with g | ⟨k', l', g1, g2, g3⟩
    · exact .inl g
    · rw [h3] at g1
      rw [f3] at g2
      simp only [Option.some.injEq] at g1 g2
      subst g1 g2
      exact .inr ⟨k, l, h2, f2, g3⟩
  · obtain ⟨h1, k', h2, h3, _⟩ := up i b hb
    have hk : (putAll .leaf 0 bl).get i = some k := hk
    rw [h2] at hk
    simp only [Option.some.injEq] at hk
    subst hk
    exact h.cap i b k' h1 h3 e sz hsz hkd
mutual
/-- Does the value name none but the listed blocks? -/
def SV.idsIn (H : Tree SBlk) : SV → Bool
  | .slice id _ _ _ _ => (H.get id).isSome
  | .oslice id _ => (H.get id).isSome
  | .ptr id _ => (H.get id).isSome
  | .agg l => SV.idsInL H l
  | .tuple l => SV.idsInL H l
  | v => v.plain
def SV.idsInL (H : Tree SBlk) : List SV → Bool
  | [] => true
  | v :: l => Bool.casesOn (motive := fun _ => Bool) (SV.idsIn H v) false (SV.idsInL H l)
end
mutual
theorem SV.idsIn_den {D : Den} {μ ν : Mu} {H : Tree SBlk} (hν : ∀ i, (H.get i).isSome = true → ν i = μ i) : ∀ {v : SV}, v.idsIn H = true → v.den D ν = v.den D μ
  | .slice id off len cap u, h => by simp only [SV.den, hν id (by simpa [SV.idsIn] using h)]
  | .ptr id off, h => by simp only [SV.den, hν id (by simpa [SV.idsIn] using h)]
  | .oslice id len, h => by simp only [SV.den, hν id (by simpa [SV.idsIn] using h)]
  | .agg l, h => by simp only [SV.den, SV.idsInL_den hν (l := l) (by simpa [SV.idsIn] using h)]
  | .tuple l, h => by simp only [SV.den, SV.idsInL_den hν (l := l) (by simpa [SV.idsIn] using h)]
  | .int k p, h => rfl
  | .bool b, h => rfl
  | .raw v, h => rfl
  | .xptr _ _, h => by simp [SV.idsIn, SV.plain] at h
  | .xslice _ _ _ _, h => by simp [SV.idsIn, SV.plain] at h
  | .xlen _ _, h => by simp [SV.idsIn, SV.plain] at h
  | .aslice _ _ _, h => by simp [SV.idsIn, SV.plain] at h
  | .func _ _ _, h => by simp [SV.idsIn, SV.plain] at h
theorem SV.idsInL_den {D : Den} {μ ν : Mu} {H : Tree SBlk} (hν : ∀ i, (H.get i).isSome = true → ν i = μ i) : ∀ {l : List SV}, SV.idsInL H l = true → SV.denL D ν l = SV.denL D μ l
  | [], _ => rfl
  | v :: l, h => by
    simp only [SV.idsInL] at h
    cases hv : SV.idsIn H v
    · rw [hv] at h; simp at h
    · rw [hv] at h
      simp only [SV.denL, SV.idsIn_den hν hv, SV.idsInL_den hν (l := l) h]
end

def STree.run (F : Facts) (σ : List Poly) (k : Nat) : STree → R (SV × List (Nat × SBlk))
  | .leaf v => (v.sub F σ).bind fun u => .ok (u, [])
  | .leafM v bl => (v.subM F σ k).bind fun u => (subBl F σ bl).bind fun m => .ok (u, m)
  | .test q a b => (q.dec F σ).bind fun c => Bool.casesOn (motive := fun _ => R (SV × List (Nat × SBlk))) c (b.run F σ k) (a.run F σ k)
theorem STree.run_ok {D D' : Den} {F : Facts} (hs : Sat D.env F) {σ : List Poly} (hD : D'.env = D.env.sub σ) {k : Nat} : ∀ {t : STree} {x : SV × List (Nat × SBlk)}, t.run F σ k = .ok x →
    subBl F σ (t.at D'.env).2 = .ok x.2 ∧ ∀ μ ν : Mu, (∀ i, ν (k + i) = μ i) → x.1.den D ν = (t.at D'.env).1.den D' μ
  | .leaf v, x, h => by
    obtain ⟨u, hu, h1⟩ := R.bind_ok h
    simp only [R.ok.injEq] at h1; subst h1
    exact ⟨rfl, fun μ ν _ => SV.sub_den hs hD hu⟩
  | .leafM v bl, x, h => by
    obtain ⟨u, hu, h1⟩ := R.bind_ok h
    obtain ⟨m, hm, h2⟩ := R.bind_ok h1
    simp only [R.ok.injEq] at h2; subst h2
    exact ⟨hm, fun μ ν hν => SV.subM_den hs hD hν hu⟩
  | .test q a b, x, h => by
    simp only [STree.run] at h
    obtain ⟨c, hc, h1⟩ := R.bind_ok h
    have h2 := Quest.dec_ok hs hc
    rw [← hD] at h2
    simp only [STree.at, h2]
    cases c
    · exact STree.run_ok hs hD h1
    · exact STree.run_ok hs hD h1

/-- A summary: the arguments as they are taken, the ranges of the variables in them, the tree; the cells of the slices among the arguments (rows from 1000 on); how the variables are found from the numbers met (empty: they are the numbers). -/
structure Summ where
  args : List SV
  l : List Iv
  tree : STree
  rows : List (List SV)
  inv : List (List (Nat × Int))

def rowAt : List (List SV) → Nat → List SV
  | [], _ => []
  | r :: l, n => Bool.casesOn (motive := fun _ => List SV) (Nat.beq n 0) (rowAt l (Nat.pred n)) r
/-- Rows beside the laid variables. -/
def xWith (X : Nat → List SV) (rows : List (List SV)) (i : Nat) : List SV := Bool.casesOn (motive := fun _ => List SV) (Nat.blt i 1000) (rowAt rows (Nat.sub i 1000)) (X i)
theorem xWith_lt {X : Nat → List SV} {rows : List (List SV)} {i : Nat} (h : i < 1000) : xWith X rows i = X i := by
  unfold xWith
  rw [show Nat.blt i 1000 = true from blt_iff.2 h]
theorem xWith_ge {X : Nat → List SV} {rows : List (List SV)} {i : Nat} (h : ¬ i < 1000) : xWith X rows i = rowAt rows (i - 1000) := by
  unfold xWith
  have : Nat.blt i 1000 = false := by
    cases hb : Nat.blt i 1000
    · rfl
    · exact absurd (blt_iff.1 hb) h
  rw [this]
  rfl
theorem xWith_xWith (X : Nat → List SV) (r r' : List (List SV)) : xWith (xWith X r) r' = xWith X r' := by
  funext i
  by_cases h : i < 1000
  · rw [xWith_lt h, xWith_lt h, xWith_lt h]
  · rw [xWith_ge h, xWith_ge h]

/-- The laid variables name no variable. -/
def Closed0 (X : Nat → List SV) : Prop := ∀ (i j : Nat) v, i < 1000 → (X i)[j]? = some v → ∀ D D' : Den, v.den D (fun _ => none) = v.den D' (fun _ => none)

/-- The summary tells what the function comes to, wherever the laid variables are as laid. -/
def SumOk (P : Program) (X : Nat → List SV) (gx : Nat → Option Nat) (g : FuncId) (m : Summ) : Prop :=
  ∀ (D : Den) (w : World), BaseOk ⟨w, xWith X m.rows⟩ D → D.env.f = stdF → (∀ g i, gx g = some i → i < 1000 ∧ D.xi i = ⟨g, 0, none⟩) → (∀ (i : Nat) (k : Iv), m.l[i]? = some k → k.has (D.env.v i)) →
  ∀ ARGS, SV.denL D (fun _ => none) m.args = some ARGS → Calls P g ARGS.toArray w fun e w' => ∃ V μ, e = .returned V ∧ (m.tree.at D.env).1.den D μ = some V ∧ Rep ⟨w, xWith X m.rows⟩ D μ (stM (m.tree.at D.env).2) w'
theorem SumOk.with {P : Program} {X : Nat → List SV} {gx : Nat → Option Nat} {g : FuncId} {m : Summ} {rows : List (List SV)} : SumOk P (xWith X rows) gx g m ↔ SumOk P X gx g m := by
  unfold SumOk
  rw [xWith_xWith]

/-! ### The arguments' numbers -/
mutual
def SV.flat : SV → List Poly → List Poly
  | .int _ p, r => p :: r
  | .agg l, r => SV.flatL l r
  | .tuple l, r => SV.flatL l r
  | _, r => r
def SV.flatL : List SV → List Poly → List Poly
  | [], r => r
  | v :: l, r => SV.flat v (SV.flatL l r)
end
def inKinds (F : Facts) : List Iv → List Poly → Bool
  | [], [] => true
  | k :: l, p :: σ => match Poly.bnd F p with
    | some v => match ile k.lo v.lo && ile v.hi k.hi with
      | true => inKinds F l σ
      | false => false
    | none => false
  | _, _ => false
theorem ivT_of {k : IntKind} {n : Int} (h : (ivT k).has n) : k.min ≤ n ∧ n ≤ k.max := by
  cases k <;> simp [ivT, Iv.has, IntKind.min, IntKind.max, IntKind.signed, IntKind.bits] at h ⊢ <;> omega
theorem inKinds_ok {ρ : Env} {F : Facts} (hs : Sat ρ F) : ∀ {l : List Iv} {σ : List Poly}, inKinds F l σ = true → ∀ (i : Nat) (k : Iv), l[i]? = some k → k.has ((ρ.sub σ).v i)
  | [], [], _, i, k, h => by simp at h
  | c :: l, p :: σ, h, i, k, hk => by
    simp only [inKinds] at h
    split at h
    · rename_i v hv
      split at h
      · rename_i hle
        rw [Bool.and_eq_true] at hle
        have hb := Poly.bnd_has hs p
        rw [hv] at hb
        obtain ⟨h1, h2⟩ := hb v rfl
        cases i with
        | zero =>
          simp only [List.getElem?_cons_zero, Option.some.injEq] at hk
          subst hk
          exact ⟨Int.le_trans (ile_iff.1 hle.1) h1, Int.le_trans h2 (ile_iff.1 hle.2)⟩
        | succ i => exact inKinds_ok hs h i k (by simpa using hk)
      · simp at h
    · simp at h
  | [], _ :: _, h, _, _, _ => by simp [inKinds] at h
  | _ :: _, [], h, _, _, _ => by simp [inKinds] at h

end Go.Sym

/- SymGo, part 1: integer expressions, polynomials over atoms, intervals and path facts; each operation is sound for the value of the expression. -/
import GoSem.Core.View
namespace Go.Sym

/-- Integer expressions; atoms of polynomials are `var`, `rem`, `quo`, `wrap`, `app`. -/
inductive E where
  | lit (n : Int)
  | var (i : Nat)
  | add (a b : E)
  | mul (a b : E)
  | rem (a b : E)
  | quo (a b : E)
  | fdiv (a b : E)
  | wrap (k : IntKind) (a : E)
  | app (f : Nat) (a b c : E)
  | emod (m : Nat) (a : E)
  deriving Inhabited

/-! ### The functions that `app` names -/
/-- The sign of a + b*sqrt(3). -/
def ssign (a b : Int) : Int := Int.sign (a * a.natAbs + 3 * (b * b.natAbs))
/-- The greatest number of at most k whose square is at most n. -/
def isqA (n : Nat) : Nat → Nat
  | 0 => 0
  | k + 1 => bif Nat.ble ((k + 1) * (k + 1)) n then k + 1 else isqA n k
/-- n*sqrt(3), rounded down. -/
def root3 (n : Int) : Int := match n with
  | .ofNat m => (isqA (3 * (m * m)) (2 * m) : Nat)
  | .negSucc m => -((isqA (3 * ((m + 1) * (m + 1))) (2 * (m + 1)) : Nat) : Int) - 1
def stdF : Nat → Int → Int → Int → Int
  | 0, a, b, _ => ssign a b
  | 1, a, _, _ => root3 a
  | 2, p, a, b => if p ≤ 0 then a else b
  | 3, p, a, b => if p = 0 then a else b
  | _, _, _, _ => 0

/-- A valuation: the variables, and the functions that `app` names. -/
structure Env where
  v : Nat → Int
  f : Nat → Int → Int → Int → Int

def E.ev (ρ : Env) : E → Int
  | .lit n => n
  | .var i => ρ.v i
  | .add a b => a.ev ρ + b.ev ρ
  | .mul a b => a.ev ρ * b.ev ρ
  | .rem a b => (a.ev ρ).tmod (b.ev ρ)
  | .quo a b => (a.ev ρ).tdiv (b.ev ρ)
  | .fdiv a b => (a.ev ρ).fdiv (b.ev ρ)
  | .wrap k a => k.wrap (a.ev ρ)
  | .app f a b c => ρ.f f (a.ev ρ) (b.ev ρ) (c.ev ρ)
  | .emod m a => a.ev ρ % (m : Int)

def ncmp (a b : Nat) : Ordering := bif Nat.beq a b then .eq else bif Nat.blt a b then .lt else .gt
def icmp : Int → Int → Ordering
  | .ofNat a, .ofNat b => ncmp a b
  | .ofNat _, .negSucc _ => .gt
  | .negSucc _, .ofNat _ => .lt
  | .negSucc a, .negSucc b => ncmp b a
def kidx : IntKind → Nat
  | .i8 => 0 | .i16 => 1 | .i32 => 2 | .i64 => 3 | .u8 => 4 | .u16 => 5 | .u32 => 6 | .u64 => 7
def oseq (a : Ordering) (b : Ordering) : Ordering := match a with | .eq => b | .lt => .lt | .gt => .gt

def E.idx : E → Nat
  | .lit _ => 0 | .var _ => 1 | .add _ _ => 2 | .mul _ _ => 3 | .rem _ _ => 4 | .quo _ _ => 5 | .wrap _ _ => 6 | .app _ _ _ _ => 7 | .fdiv _ _ => 9 | .emod _ _ => 10

def E.cmp : E → E → Ordering
  | .lit a, e => match e with | .lit b => icmp a b | e => ncmp 0 e.idx
  | .var a, e => match e with | .var b => ncmp a b | e => ncmp 1 e.idx
  | .add a b, e => match e with | .add c d => oseq (a.cmp c) (b.cmp d) | e => ncmp 2 e.idx
  | .mul a b, e => match e with | .mul c d => oseq (a.cmp c) (b.cmp d) | e => ncmp 3 e.idx
  | .rem a b, e => match e with | .rem c d => oseq (a.cmp c) (b.cmp d) | e => ncmp 4 e.idx
  | .quo a b, e => match e with | .quo c d => oseq (a.cmp c) (b.cmp d) | e => ncmp 5 e.idx
  | .wrap k a, e => match e with | .wrap l c => oseq (ncmp (kidx k) (kidx l)) (a.cmp c) | e => ncmp 6 e.idx
  | .app f a b c, e => match e with | .app g x y z => oseq (ncmp f g) (oseq (a.cmp x) (oseq (b.cmp y) (c.cmp z))) | e => ncmp 7 e.idx
  | .fdiv a b, e => match e with | .fdiv c d => oseq (a.cmp c) (b.cmp d) | e => ncmp 9 e.idx
  | .emod m a, e => match e with | .emod n c => oseq (ncmp m n) (a.cmp c) | e => ncmp 10 e.idx

theorem ncmp_eq {a b : Nat} (h : ncmp a b = .eq) : a = b := by
  unfold ncmp at h
  cases hb : Nat.beq a b
  · rw [hb] at h; simp only [cond_false] at h
    cases hl : Nat.blt a b <;> rw [hl] at h <;> simp at h
  · exact Nat.eq_of_beq_eq_true hb

theorem icmp_eq {a b : Int} (h : icmp a b = .eq) : a = b := by
  cases a <;> cases b <;> simp [icmp] at h
  · rw [ncmp_eq h]
  · rw [ncmp_eq h]

theorem kidx_inj {a b : IntKind} (h : kidx a = kidx b) : a = b := by
  cases a <;> cases b <;> simp [kidx] at h <;> rfl

theorem oseq_eq {a b : Ordering} (h : oseq a b = .eq) : a = .eq ∧ b = .eq := by
  cases a <;> simp_all [oseq]

theorem E.cmp_eq : ∀ {a b : E}, a.cmp b = .eq → a = b := by
  intro a
  induction a with
  | lit n => intro b h; cases b <;> simp only [E.cmp, E.idx] at h <;> first | rw [icmp_eq h] | (have := ncmp_eq h; omega)
  | var n => intro b h; cases b <;> simp only [E.cmp, E.idx] at h <;> first | (have := ncmp_eq h; omega) | rw [ncmp_eq h]
  | add x y hx hy => intro b h; cases b <;> simp only [E.cmp, E.idx] at h <;> first | (have := ncmp_eq h; omega) | (obtain ⟨h1, h2⟩ := oseq_eq h; rw [hx h1, hy h2])
  | mul x y hx hy => intro b h; cases b <;> simp only [E.cmp, E.idx] at h <;> first | (have := ncmp_eq h; omega) | (obtain ⟨h1, h2⟩ := oseq_eq h; rw [hx h1, hy h2])
  | rem x y hx hy => intro b h; cases b <;> simp only [E.cmp, E.idx] at h <;> first | (have := ncmp_eq h; omega) | (obtain ⟨h1, h2⟩ := oseq_eq h; rw [hx h1, hy h2])
  | quo x y hx hy => intro b h; cases b <;> simp only [E.cmp, E.idx] at h <;> first | (have := ncmp_eq h; omega) | (obtain ⟨h1, h2⟩ := oseq_eq h; rw [hx h1, hy h2])
  | fdiv x y hx hy => intro b h; cases b <;> simp only [E.cmp, E.idx] at h <;> first | (have := ncmp_eq h; omega) | (obtain ⟨h1, h2⟩ := oseq_eq h; rw [hx h1, hy h2])
  | wrap k x hx => intro b h; cases b <;> simp only [E.cmp, E.idx] at h <;> first | (have := ncmp_eq h; omega) | (obtain ⟨h1, h2⟩ := oseq_eq h; rw [kidx_inj (ncmp_eq h1), hx h2])
  | app k x y z hx hy hz => intro b h; cases b <;> simp only [E.cmp, E.idx] at h <;> first | (have := ncmp_eq h; omega) | (obtain ⟨h1, h2⟩ := oseq_eq h; obtain ⟨h3, h4⟩ := oseq_eq h2; obtain ⟨h5, h6⟩ := oseq_eq h4; rw [ncmp_eq h1, hx h3, hy h5, hz h6])
  | emod k x hx => intro b h; cases b <;> simp only [E.cmp, E.idx] at h <;> first | (have := ncmp_eq h; omega) | (obtain ⟨h1, h2⟩ := oseq_eq h; rw [ncmp_eq h1, hx h2])

/-- A monomial: a sorted list of atoms; a polynomial: a sorted list of monomials with coefficients. -/
abbrev Mono := List E
abbrev Poly := List (Mono × Int)

def Mono.ev (ρ : Env) : Mono → Int
  | [] => 1
  | e :: m => e.ev ρ * Mono.ev ρ m
def Poly.ev (ρ : Env) : Poly → Int
  | [] => 0
  | (m, c) :: p => c * Mono.ev ρ m + Poly.ev ρ p

def Mono.ins (e : E) : Mono → Mono
  | [] => [e]
  | a :: m => match e.cmp a with
    | .gt => a :: Mono.ins e m
    | _ => e :: a :: m
def Mono.mul : Mono → Mono → Mono
  | [], n => n
  | e :: m, n => Mono.ins e (Mono.mul m n)

/-- Same length: the order of the atoms decides. -/
def Mono.lex : Mono → Mono → Ordering
  | [], [] => .eq
  | [], _ :: _ => .lt
  | _ :: _, [] => .gt
  | a :: m, b :: n => match a.cmp b with
    | .eq => Mono.lex m n
    | o => o
def Mono.len : Mono → Mono → Ordering
  | [], [] => .eq
  | [], _ :: _ => .lt
  | _ :: _, [] => .gt
  | _ :: m, _ :: n => Mono.len m n
def Mono.cmp (m n : Mono) : Ordering := match Mono.len m n with
  | .eq => Mono.lex m n
  | o => o

theorem Mono.lex_eq : ∀ {m n : Mono}, Mono.lex m n = .eq → m = n
  | [], [], _ => rfl
  | [], _ :: _, h => by simp [Mono.lex] at h
  | _ :: _, [], h => by simp [Mono.lex] at h
  | a :: m, b :: n, h => by
    simp only [Mono.lex] at h
    split at h
    · rename_i he; rw [E.cmp_eq he, Mono.lex_eq h]
    · rename_i o hne; exact absurd h (by simpa using hne)
theorem Mono.cmp_eq {m n : Mono} (h : Mono.cmp m n = .eq) : m = n := by
  unfold Mono.cmp at h
  split at h
  · exact Mono.lex_eq h
  · rename_i o hne; exact absurd h (by simpa using hne)

def Poly.lit (n : Int) : Poly := match n with
  | .ofNat 0 => []
  | n => [([], n)]
def Poly.atom (e : E) : Poly := [([e], 1)]

def isZ : Int → Bool
  | .ofNat 0 => true
  | _ => false

def Poly.add : Nat → Poly → Poly → Poly
  | 0, p, q => p ++ q
  | _ + 1, [], q => q
  | _ + 1, p, [] => p
  | f + 1, (m, c) :: p, (n, d) :: q => match Mono.cmp m n with
    | .lt => (m, c) :: Poly.add f p ((n, d) :: q)
    | .gt => (n, d) :: Poly.add f ((m, c) :: p) q
    | .eq => bif isZ (c + d) then Poly.add f p q else (m, c + d) :: Poly.add f p q

def big : Nat := 1000000000
def Poly.scale (c : Int) : Poly → Poly
  | [] => []
  | (m, d) :: p => (m, c * d) :: Poly.scale c p
def Poly.mulTerm (m : Mono) (c : Int) : Poly → Poly
  | [] => []
  | (n, d) :: p => (Mono.mul m n, c * d) :: Poly.mulTerm m c p
def Poly.mul : Poly → Poly → Poly
  | [], _ => []
  | (m, c) :: p, q => Poly.add big (Poly.mulTerm m c q) (Poly.mul p q)
def Poly.plus (p q : Poly) : Poly := Poly.add big p q
def Poly.neg (p : Poly) : Poly := Poly.scale (-1) p
def Poly.minus (p q : Poly) : Poly := Poly.add big p (Poly.neg q)
def Poly.times (p q : Poly) : Poly := match p, q with
  | [], _ => []
  | _, [] => []
  | [([], c)], q => Poly.scale c q
  | p, [([], c)] => Poly.scale c p
  | p, q => Poly.mul p q

theorem E.ev_lit (ρ : Env) (n : Int) : (E.lit n).ev ρ = n := rfl

theorem Mono.ev_ins (ρ : Env) (e : E) : ∀ m : Mono, Mono.ev ρ (Mono.ins e m) = e.ev ρ * Mono.ev ρ m
  | [] => rfl
  | a :: m => by
    simp only [Mono.ins]
    split
    · simp only [Mono.ev, Mono.ev_ins ρ e m]; rw [← Int.mul_assoc, ← Int.mul_assoc, Int.mul_comm (a.ev ρ)]
    · rfl
theorem Mono.ev_mul (ρ : Env) : ∀ m n : Mono, Mono.ev ρ (Mono.mul m n) = Mono.ev ρ m * Mono.ev ρ n
  | [], n => by simp [Mono.mul, Mono.ev]
  | e :: m, n => by simp only [Mono.mul, Mono.ev_ins, Mono.ev_mul ρ m n, Mono.ev]; rw [Int.mul_assoc]

theorem isZ_eq {n : Int} (h : isZ n = true) : n = 0 := by
  unfold isZ at h
  split at h
  · rfl
  · simp at h

theorem Poly.ev_append (ρ : Env) : ∀ p q : Poly, Poly.ev ρ (p ++ q) = Poly.ev ρ p + Poly.ev ρ q
  | [], q => by simp [Poly.ev]
  | (m, c) :: p, q => by simp only [List.cons_append, Poly.ev, Poly.ev_append ρ p q]; omega

theorem Poly.ev_add (ρ : Env) : ∀ (f : Nat) (p q : Poly), Poly.ev ρ (Poly.add f p q) = Poly.ev ρ p + Poly.ev ρ q
  | 0, p, q => Poly.ev_append ρ p q
  | _ + 1, [], q => by simp [Poly.add, Poly.ev]
  | _ + 1, x :: p, [] => by simp [Poly.add, Poly.ev]
  | f + 1, (m, c) :: p, (n, d) :: q => by
    simp only [Poly.add]
    split
    · simp only [Poly.ev, Poly.ev_add ρ f]; omega
    · simp only [Poly.ev, Poly.ev_add ρ f]; omega
    · rename_i h
      have hm := Mono.cmp_eq h
      subst hm
      cases hz : isZ (c + d)
      · simp only [cond_false, Poly.ev, Poly.ev_add ρ f, Int.add_mul]; omega
      · have h0 := isZ_eq hz
        simp only [cond_true, Poly.ev, Poly.ev_add ρ f]
        have : c * Mono.ev ρ m + d * Mono.ev ρ m = 0 := by rw [← Int.add_mul, h0, Int.zero_mul]
        omega

theorem Poly.ev_scale (ρ : Env) (c : Int) : ∀ p : Poly, Poly.ev ρ (Poly.scale c p) = c * Poly.ev ρ p
  | [] => by simp [Poly.scale, Poly.ev]
  | (m, d) :: p => by simp only [Poly.scale, Poly.ev, Poly.ev_scale ρ c p, Int.mul_add, Int.mul_assoc]
theorem Poly.ev_mulTerm (ρ : Env) (m : Mono) (c : Int) : ∀ p : Poly, Poly.ev ρ (Poly.mulTerm m c p) = c * Mono.ev ρ m * Poly.ev ρ p
  | [] => by simp [Poly.mulTerm, Poly.ev]
  | (n, d) :: p => by
    simp only [Poly.mulTerm, Poly.ev, Poly.ev_mulTerm ρ m c p, Mono.ev_mul, Int.mul_add]
    have : c * d * (Mono.ev ρ m * Mono.ev ρ n) = c * Mono.ev ρ m * (d * Mono.ev ρ n) := by
      rw [Int.mul_assoc, Int.mul_assoc, ← Int.mul_assoc d, Int.mul_comm d, Int.mul_assoc (Mono.ev ρ m)]
    omega
theorem Poly.ev_mul (ρ : Env) : ∀ p q : Poly, Poly.ev ρ (Poly.mul p q) = Poly.ev ρ p * Poly.ev ρ q
  | [], q => by simp [Poly.mul, Poly.ev]
  | (m, c) :: p, q => by simp only [Poly.mul, Poly.ev, Poly.ev_add, Poly.ev_mulTerm, Poly.ev_mul ρ p q, Int.add_mul]
theorem Poly.ev_plus (ρ : Env) (p q : Poly) : Poly.ev ρ (Poly.plus p q) = Poly.ev ρ p + Poly.ev ρ q := Poly.ev_add ρ _ p q
theorem Poly.ev_neg (ρ : Env) (p : Poly) : Poly.ev ρ (Poly.neg p) = - Poly.ev ρ p := by rw [Poly.neg, Poly.ev_scale]; omega
theorem Poly.ev_minus (ρ : Env) (p q : Poly) : Poly.ev ρ (Poly.minus p q) = Poly.ev ρ p - Poly.ev ρ q := by
  rw [Poly.minus, Poly.ev_add, Poly.ev_neg]; omega
theorem Poly.ev_times (ρ : Env) (p q : Poly) : Poly.ev ρ (Poly.times p q) = Poly.ev ρ p * Poly.ev ρ q := by
  unfold Poly.times
  split
  · simp [Poly.ev]
  · simp [Poly.ev]
  · simp [Poly.ev, Mono.ev, Poly.ev_scale]
  · simp [Poly.ev, Mono.ev, Poly.ev_scale, Int.mul_comm]
  · exact Poly.ev_mul ρ p q
theorem Poly.ev_lit (ρ : Env) (n : Int) : Poly.ev ρ (Poly.lit n) = n := by
  unfold Poly.lit
  split
  · rfl
  · simp [Poly.ev, Mono.ev]
theorem Poly.ev_atom (ρ : Env) (e : E) : Poly.ev ρ (Poly.atom e) = e.ev ρ := by simp [Poly.atom, Poly.ev, Mono.ev]

/-- A polynomial as an expression. -/
def Mono.toE : Mono → E
  | [] => .lit 1
  | [e] => e
  | e :: m => .mul e (Mono.toE m)
def termE (m : Mono) (c : Int) : E := match m, c with
  | [], c => .lit c
  | m, .ofNat 1 => Mono.toE m
  | m, c => .mul (.lit c) (Mono.toE m)
def Poly.toE : Poly → E
  | [] => .lit 0
  | [(m, c)] => termE m c
  | (m, c) :: p => .add (termE m c) (Poly.toE p)

theorem E.ev_add (ρ : Env) (a b : E) : (E.add a b).ev ρ = a.ev ρ + b.ev ρ := rfl
theorem E.ev_mul (ρ : Env) (a b : E) : (E.mul a b).ev ρ = a.ev ρ * b.ev ρ := rfl
theorem E.ev_rem (ρ : Env) (a b : E) : (E.rem a b).ev ρ = (a.ev ρ).tmod (b.ev ρ) := rfl
theorem E.ev_quo (ρ : Env) (a b : E) : (E.quo a b).ev ρ = (a.ev ρ).tdiv (b.ev ρ) := rfl
theorem E.ev_fdiv (ρ : Env) (a b : E) : (E.fdiv a b).ev ρ = (a.ev ρ).fdiv (b.ev ρ) := rfl
theorem E.ev_app (ρ : Env) (f : Nat) (a b c : E) : (E.app f a b c).ev ρ = ρ.f f (a.ev ρ) (b.ev ρ) (c.ev ρ) := rfl
theorem E.ev_emod (ρ : Env) (m : Nat) (a : E) : (E.emod m a).ev ρ = a.ev ρ % (m : Int) := rfl
theorem E.ev_wrap (ρ : Env) (k : IntKind) (a : E) : (E.wrap k a).ev ρ = k.wrap (a.ev ρ) := rfl

theorem Mono.ev_toE (ρ : Env) : ∀ m : Mono, (Mono.toE m).ev ρ = Mono.ev ρ m
  | [] => rfl
  | [e] => by simp [Mono.toE, Mono.ev]
  | e :: a :: m => by
    have := Mono.ev_toE ρ (a :: m)
    simp only [Mono.toE, E.ev_mul, this, Mono.ev]
theorem ev_termE (ρ : Env) (m : Mono) (c : Int) : (termE m c).ev ρ = c * Mono.ev ρ m := by
  unfold termE
  split
  · simp [E.ev_lit, Mono.ev]
  · rw [Mono.ev_toE]; simp
  · rw [E.ev_mul, Mono.ev_toE, E.ev_lit]
theorem Poly.ev_toE (ρ : Env) : ∀ p : Poly, (Poly.toE p).ev ρ = Poly.ev ρ p
  | [] => rfl
  | [(m, c)] => by simp [Poly.toE, ev_termE, Poly.ev]
  | (m, c) :: x :: p => by
    have := Poly.ev_toE ρ (x :: p)
    simp only [Poly.toE, E.ev_add, ev_termE, this, Poly.ev]

/-- Equality of polynomials, as they are written. -/
def Poly.same : Poly → Poly → Bool
  | [], [] => true
  | (m, c) :: p, (n, d) :: q => match icmp c d with
    | .eq => match Mono.cmp m n with
      | .eq => Poly.same p q
      | _ => false
    | _ => false
  | _, _ => false
theorem Poly.same_eq : ∀ {p q : Poly}, Poly.same p q = true → p = q
  | [], [], _ => rfl
  | [], _ :: _, h => by simp [Poly.same] at h
  | _ :: _, [], h => by simp [Poly.same] at h
  | (m, c) :: p, (n, d) :: q, h => by
    simp only [Poly.same] at h
    split at h
    · rename_i h1
      split at h
      · rename_i h2; rw [icmp_eq h1, Mono.cmp_eq h2, Poly.same_eq h]
      · simp at h
    · simp at h

theorem beq_iff {a b : Nat} : Nat.beq a b = true ↔ a = b := ⟨Nat.eq_of_beq_eq_true, fun h => by subst h; exact Nat.beq_refl a⟩
theorem beq_false {a b : Nat} (h : a ≠ b) : Nat.beq a b = false := by
  cases hb : Nat.beq a b
  · rfl
  · exact absurd (beq_iff.1 hb) h

/-- Slots by number. (The kernel walks this often: each level is one 'Bool.casesOn' or two.) -/
inductive Tree (α : Type) where
  | leaf
  | node (v : Option α) (l r : Tree α)

def Tree.get {α : Type} : Tree α → Nat → Option α
  | .leaf, _ => none
  | .node v l r, n => Bool.casesOn (motive := fun _ => Option α) (Nat.beq n (nat_lit 0)) (Bool.casesOn (motive := fun _ => Option α) (Nat.beq (Nat.mod n (nat_lit 2)) (nat_lit 1)) (r.get (Nat.sub (Nat.div n (nat_lit 2)) (nat_lit 1))) (l.get (Nat.div n (nat_lit 2)))) v
def Tree.one {α : Type} : Nat → Nat → α → Tree α
  | 0, _, _ => .leaf
  | f + 1, n, x => Bool.casesOn (motive := fun _ => Tree α) (Nat.beq n (nat_lit 0)) (Bool.casesOn (motive := fun _ => Tree α) (Nat.beq (Nat.mod n (nat_lit 2)) (nat_lit 1)) (.node none .leaf (Tree.one f (Nat.sub (Nat.div n (nat_lit 2)) (nat_lit 1)) x)) (.node none (Tree.one f (Nat.div n (nat_lit 2)) x) .leaf)) (.node (some x) .leaf .leaf)
def Tree.set {α : Type} : Tree α → Nat → α → Tree α
  | .leaf, n, x => Tree.one (Nat.succ n) n x
  | .node v l r, n, x => Bool.casesOn (motive := fun _ => Tree α) (Nat.beq n (nat_lit 0)) (Bool.casesOn (motive := fun _ => Tree α) (Nat.beq (Nat.mod n (nat_lit 2)) (nat_lit 1)) (.node v l (r.set (Nat.sub (Nat.div n (nat_lit 2)) (nat_lit 1)) x)) (.node v (l.set (Nat.div n (nat_lit 2)) x) r)) (.node (some x) l r)

theorem Tree.get_node {α : Type} (v : Option α) (l r : Tree α) (n : Nat) : (Tree.node v l r).get n = if n = 0 then v else if n % 2 = 1 then l.get (n / 2) else r.get (n / 2 - 1) := by
  show Bool.casesOn (motive := fun _ => Option α) (Nat.beq n 0) (Bool.casesOn (motive := fun _ => Option α) (Nat.beq (n % 2) 1) (r.get (n / 2 - 1)) (l.get (n / 2))) v = _
  by_cases h : n = 0
  · rw [beq_iff.2 h, if_pos h]
  · rw [beq_false h, if_neg h]
    by_cases h1 : n % 2 = 1
    · rw [beq_iff.2 h1, if_pos h1]
    · rw [beq_false h1, if_neg h1]
theorem Tree.get_one {α : Type} (x : α) : ∀ (f n m : Nat), n < f → (Tree.one f n x).get m = if m = n then some x else none
  | 0, _, _, h => by omega
  | f + 1, n, m, h => by
    show (Bool.casesOn (motive := fun _ => Tree α) (Nat.beq n 0) (Bool.casesOn (motive := fun _ => Tree α) (Nat.beq (n % 2) 1) (.node none .leaf (Tree.one f (n / 2 - 1) x)) (.node none (Tree.one f (n / 2) x) .leaf)) (.node (some x) .leaf .leaf) : Tree α).get m = _
    by_cases h0 : n = 0
    · subst h0
      rw [beq_iff.2 rfl, Tree.get_node]
      by_cases hm : m = 0
      · rw [if_pos hm, if_pos hm]
      · rw [if_neg hm, if_neg hm]
        split <;> rfl
    · rw [beq_false h0]
      by_cases h1 : n % 2 = 1
      · rw [beq_iff.2 h1, Tree.get_node, Tree.get_one x f (n / 2) (m / 2) (by omega)]
        by_cases hm : m = n
        · subst hm
          rw [if_neg h0, if_pos h1, if_pos rfl, if_pos rfl]
        · rw [if_neg hm]
          split
          · rfl
          · split
            · rw [if_neg (by omega)]
            · rfl
      · rw [beq_false h1, Tree.get_node, Tree.get_one x f (n / 2 - 1) (m / 2 - 1) (by omega)]
        by_cases hm : m = n
        · subst hm
          rw [if_neg h0, if_neg h1, if_pos rfl, if_pos rfl]
        · rw [if_neg hm]
          split
          · rfl
          · split
            · rfl
            · rw [if_neg (by omega)]
theorem Tree.get_set {α : Type} : ∀ (t : Tree α) (n m : Nat) (x : α), (t.set n x).get m = if m = n then some x else t.get m
  | .leaf, n, m, x => Tree.get_one x _ n m (Nat.lt_succ_self n)
  | .node v l r, n, m, x => by
    show (Bool.casesOn (motive := fun _ => Tree α) (Nat.beq n 0) (Bool.casesOn (motive := fun _ => Tree α) (Nat.beq (n % 2) 1) (.node v l (r.set (n / 2 - 1) x)) (.node v (l.set (n / 2) x) r)) (.node (some x) l r) : Tree α).get m = _
    rw [Tree.get_node v l r]
    by_cases h0 : n = 0
    · subst h0
      rw [beq_iff.2 rfl, Tree.get_node]
      by_cases hm : m = 0
      · rw [if_pos hm, if_pos hm]
      · rw [if_neg hm, if_neg hm, if_neg hm]
    · rw [beq_false h0]
      by_cases h1 : n % 2 = 1
      · rw [beq_iff.2 h1, Tree.get_node, Tree.get_set l (n / 2) (m / 2)]
        by_cases hm : m = n
        · subst hm
          rw [if_neg h0, if_pos h1, if_pos rfl, if_pos rfl]
        · rw [if_neg hm]
          split
          · rfl
          · split
            · rw [if_neg (by omega)]
            · rfl
      · rw [beq_false h1, Tree.get_node, Tree.get_set r (n / 2 - 1) (m / 2 - 1)]
        by_cases hm : m = n
        · subst hm
          rw [if_neg h0, if_neg h1, if_pos rfl, if_pos rfl]
        · rw [if_neg hm]
          split
          · rfl
          · split
            · rfl
            · rw [if_neg (by omega)]


end Go.Sym

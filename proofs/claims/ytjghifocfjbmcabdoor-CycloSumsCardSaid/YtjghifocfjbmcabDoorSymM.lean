/- SymGo, by hand: summaries whose trees are exchanged for plainer ones. -/
import Derived.Test.YtjghifocfjbmcabDoorSym14
namespace Go.Sym

/-- What the exchange asks. -/
def Exch (m m' : Summ) : Prop := (m.args = m'.args ∧ m.rows = m'.rows ∧ m.tree.plainT = true ∧ m'.tree.plainT = true) ∧ m.l = m'.l ∧ ∀ D : Den, D.env.f = stdF → (∀ (i : Nat) (k : Iv), m.l[i]? = some k → k.has (D.env.v i)) → m.tree.ev D = m'.tree.ev D
theorem Exch.ok {P : Program} {X : Nat → List SV} {gx : Nat → Option Nat} {g : FuncId} {m m' : Summ} (h : SumOk P X gx g m) (he : Exch m m') : SumOk P X gx g m' := by
  obtain ⟨a, l, t, r, v⟩ := m
  obtain ⟨a', l', t', r', v'⟩ := m'
  obtain ⟨⟨h1, h4, h5, h6⟩, h2, h3⟩ := he
  simp only at h1 h2 h3 h4 h5 h6
  subst h1 h2 h4
  exact SumOk.congr h h5 h6 v' h3
/-- A summary of plain numbers. -/
def sum3 (a : List SV) (l : List Iv) (t : STree) : Summ := ⟨a, l, t, [], []⟩
theorem ev_one (D : Den) (p : Poly) (k : IntKind) : (STree.leaf (.int k p)).ev D = some (.int k (Poly.ev D.env p)) := rfl
theorem ev_bool (D : Den) (b : Bool) : (STree.leaf (.bool b)).ev D = some (.bool b) := rfl
theorem neg_lit : Int.negSucc 0 = -1 := rfl
theorem one_lit : Int.ofNat 1 = 1 := rfl
theorem two_lit : Int.ofNat 2 = 2 := rfl
theorem three_lit : Int.ofNat 3 = 3 := rfl
theorem ev_le (D : Den) (p : Poly) (a b : STree) : (STree.test (.le p) a b).ev D = if Poly.ev D.env p ≤ 0 then a.ev D else b.ev D := by
  simp only [STree.ev, Quest.test]
  by_cases h : Poly.ev D.env p ≤ 0 <;> simp [h]
theorem ev_eq (D : Den) (p : Poly) (a b : STree) : (STree.test (.eq p) a b).ev D = if Poly.ev D.env p = 0 then a.ev D else b.ev D := by
  simp only [STree.ev, Quest.test]
  by_cases h : Poly.ev D.env p = 0 <;> simp [h]

/-! ### A tree that comes to true -/
def STree.tru (D : Den) : STree → Prop
  | .leaf v => v.den D (fun _ => none) = some (.bool true)
  | .leafM _ _ => False
  | .test q a b => (q.holds D.env → a.tru D) ∧ (¬ q.holds D.env → b.tru D)
theorem STree.tru_ev {D : Den} : ∀ {t : STree}, t.tru D → t.ev D = some (.bool true)
  | .leaf v, h => h
  | .leafM _ _, h => False.elim h
  | .test q a b, h => by
    simp only [STree.ev]
    cases e : q.test D.env
    · exact STree.tru_ev (h.2 fun hh => by rw [test_iff.2 hh] at e; simp at e)
    · exact STree.tru_ev (h.1 (test_iff.1 e))
/-- Each leaf of the tree that the run can come to is the number `v`. -/
def STree.isv (D : Den) (k : IntKind) (v : Int) : STree → Prop
  | .leaf (.int k' p) => k' = k ∧ Poly.ev D.env p = v
  | .leaf _ => False
  | .leafM _ _ => False
  | .test q a b => (q.holds D.env → a.isv D k v) ∧ (¬ q.holds D.env → b.isv D k v)
theorem STree.isv_ev {D : Den} {k : IntKind} {v : Int} : ∀ {t : STree}, t.isv D k v → t.ev D = some (.int k v)
  | .leaf (.int k' p), ⟨h, h'⟩ => by subst h; subst h'; rfl
  | .test q a b, ⟨h, h'⟩ => by
    simp only [STree.ev]
    cases e : q.test D.env
    · exact STree.isv_ev (h' fun hh => by rw [test_iff.2 hh] at e; simp at e)
    · exact STree.isv_ev (h (test_iff.1 e))
theorem isv_le (D : Den) (k : IntKind) (v : Int) (p : Poly) (a b : STree) : (STree.test (.le p) a b).isv D k v = ((Poly.ev D.env p ≤ 0 → a.isv D k v) ∧ (¬ Poly.ev D.env p ≤ 0 → b.isv D k v)) := rfl
theorem isv_eq (D : Den) (k : IntKind) (v : Int) (p : Poly) (a b : STree) : (STree.test (.eq p) a b).isv D k v = ((Poly.ev D.env p = 0 → a.isv D k v) ∧ (¬ Poly.ev D.env p = 0 → b.isv D k v)) := rfl
theorem isv_one (D : Den) (k : IntKind) (v : Int) (p : Poly) : (STree.leaf (.int k p)).isv D k v = (Poly.ev D.env p = v) := by simp [STree.isv]
theorem tru_le (D : Den) (p : Poly) (a b : STree) : (STree.test (.le p) a b).tru D = ((Poly.ev D.env p ≤ 0 → a.tru D) ∧ (¬ Poly.ev D.env p ≤ 0 → b.tru D)) := rfl
theorem tru_eq (D : Den) (p : Poly) (a b : STree) : (STree.test (.eq p) a b).tru D = ((Poly.ev D.env p = 0 → a.tru D) ∧ (¬ Poly.ev D.env p = 0 → b.tru D)) := rfl
theorem tru_t (D : Den) : (STree.leaf (.bool true)).tru D = True := by simp [STree.tru, SV.den]
theorem tru_f (D : Den) : (STree.leaf (.bool false)).tru D = False := by simp [STree.tru, SV.den]
theorem Exch.tru {m : Summ} (hp : m.tree.plainT = true) (h : ∀ D : Den, D.env.f = stdF → (∀ (i : Nat) (k : Iv), m.l[i]? = some k → k.has (D.env.v i)) → m.tree.tru D) : Exch m ⟨m.args, m.l, .leaf (.bool true), m.rows, []⟩ :=
  ⟨⟨rfl, rfl, hp, rfl⟩, rfl, fun D hf hk => STree.tru_ev (h D hf hk)⟩

/-! ### within(n, m) for a known m: the residue -/
def withinA (m : Nat) : List SV := [.int .i64 [([.var 0], 1)], .int .i64 [([], (m : Int))]]
def withinE (m : Nat) : Summ := ⟨withinA m, [ivT .i64, ivT .i64], .test (.le [([], 1), ([.rem (.var 0) (.lit (m : Int))], 1)]) (.leaf (.int .i64 [([], (m : Int)), ([.rem (.var 0) (.lit (m : Int))], 1)])) (.leaf (.int .i64 [([.rem (.var 0) (.lit (m : Int))], 1)])), [], []⟩
def withinS (m : Nat) : Summ := ⟨withinA m, [ivT .i64, ivT .i64], .leaf (.int .i64 [([.emod m (.var 0)], 1)]), [], []⟩
theorem withinS_exch {m : Nat} (hm : 0 < m) : Exch (withinE m) (withinS m) := ⟨⟨rfl, rfl, rfl, rfl⟩, rfl, fun D _ _ => by
  simp only [withinE, withinS, ev_le, ev_one, Poly.ev, Mono.ev, E.ev, Int.mul_one, Int.one_mul, Int.add_zero]
  have h := tmod_emod (D.env.v 0) (m : Int)
  have hb := tmod_bounds (n := D.env.v 0) (m := (m : Int)) (by omega)
  generalize (D.env.v 0).tmod (m : Int) = r at *
  by_cases hr : 1 + r ≤ 0
  · rw [if_pos hr, ← h]
    have : (m + r) % (m : Int) = m + r := Int.emod_eq_of_lt (by omega) (by omega)
    rw [← this, Int.add_emod_left]
  · rw [if_neg hr, ← h, Int.emod_eq_of_lt (by omega) (by omega)]⟩

/-! ### bits.Mul64 -/
def u64A : List SV := [.int .u64 [([.var 0], 1)], .int .u64 [([.var 1], 1)]]
def mulB : E := .lit (Int.ofNat (nat_lit 4294967296))
def mul64E : Summ := ⟨u64A, [ivT .u64, ivT .u64], .leaf (.tuple [(.int .u64 [([(.fdiv (.add (.fdiv (.mul (.emod (nat_lit 4294967296) (.var (nat_lit 0))) (.emod (nat_lit 4294967296) (.var (nat_lit 1)))) (.lit (Int.ofNat (nat_lit 4294967296)))) (.mul (.fdiv (.var (nat_lit 0)) (.lit (Int.ofNat (nat_lit 4294967296)))) (.emod (nat_lit 4294967296) (.var (nat_lit 1))))) (.lit (Int.ofNat (nat_lit 4294967296))))], (Int.ofNat (nat_lit 1))), ([(.fdiv (.add (.emod (nat_lit 4294967296) (.add (.fdiv (.mul (.emod (nat_lit 4294967296) (.var (nat_lit 0))) (.emod (nat_lit 4294967296) (.var (nat_lit 1)))) (.lit (Int.ofNat (nat_lit 4294967296)))) (.mul (.var (nat_lit 1)) (.fdiv (.var (nat_lit 0)) (.lit (Int.ofNat (nat_lit 4294967296))))))) (.mul (.fdiv (.var (nat_lit 1)) (.lit (Int.ofNat (nat_lit 4294967296)))) (.emod (nat_lit 4294967296) (.var (nat_lit 0))))) (.lit (Int.ofNat (nat_lit 4294967296))))], (Int.ofNat (nat_lit 1))), ([(.fdiv (.var (nat_lit 0)) (.lit (Int.ofNat (nat_lit 4294967296)))), (.fdiv (.var (nat_lit 1)) (.lit (Int.ofNat (nat_lit 4294967296))))], (Int.ofNat (nat_lit 1)))]), (.int .u64 [([(.wrap .u64 (.mul (.var (nat_lit 0)) (.var (nat_lit 1))))], (Int.ofNat (nat_lit 1)))])]), [], []⟩
def mul64S : Summ := ⟨u64A, [ivT .u64, ivT .u64], .leaf (.tuple [.int .u64 [([.fdiv (.mul (.var 0) (.var 1)) (.lit 18446744073709551616)], 1)], .int .u64 [([.wrap .u64 (.mul (.var 0) (.var 1))], 1)]]), [], []⟩
theorem mul64_hi (x y : Int) (hx0 : 0 ≤ x) (hx1 : x < 18446744073709551616) (hy0 : 0 ≤ y) (hy1 : y < 18446744073709551616) :
    (((x % 4294967296) * (y % 4294967296)) / 4294967296 + (x / 4294967296) * (y % 4294967296)) / 4294967296 +
      ((((x % 4294967296) * (y % 4294967296)) / 4294967296 + y * (x / 4294967296)) % 4294967296 + (y / 4294967296) * (x % 4294967296)) / 4294967296 +
      (x / 4294967296) * (y / 4294967296) = (x * y) / 18446744073709551616 := by
  have hx := Int.mul_ediv_add_emod x 4294967296
  have hy := Int.mul_ediv_add_emod y 4294967296
  have h1 := Int.emod_nonneg x (show (4294967296 : Int) ≠ 0 by decide)
  have h2 := Int.emod_lt_of_pos x (show (0 : Int) < 4294967296 by decide)
  have h3 := Int.emod_nonneg y (show (4294967296 : Int) ≠ 0 by decide)
  have h4 := Int.emod_lt_of_pos y (show (0 : Int) < 4294967296 by decide)
  have h5 : 0 ≤ x / 4294967296 := by omega
  have h6 : 0 ≤ y / 4294967296 := by omega
  generalize x / 4294967296 = a at *
  generalize y / 4294967296 = c at *
  generalize x % 4294967296 = b at *
  generalize y % 4294967296 = d at *
  subst hx hy
  have e1 : (4294967296 * c + d) * a = 4294967296 * (a * c) + a * d := by rw [Int.add_mul, Int.mul_assoc, Int.mul_comm c, Int.mul_comm d]
  have e2 : (4294967296 * a + b) * (4294967296 * c + d) = 18446744073709551616 * (a * c) + 4294967296 * (a * d) + 4294967296 * (b * c) + b * d := by
    rw [Int.add_mul, Int.mul_add, Int.mul_add]
    rw [show 4294967296 * a * (4294967296 * c) = 18446744073709551616 * (a * c) by rw [Int.mul_assoc, Int.mul_left_comm a, ← Int.mul_assoc]; rfl]
    rw [Int.mul_assoc 4294967296 a d, Int.mul_left_comm b 4294967296 c]
    omega
  rw [e1, e2, Int.mul_comm c b]
  have g1 : 0 ≤ a * c := Int.mul_nonneg h5 h6
  have g2 : 0 ≤ a * d := Int.mul_nonneg h5 h3
  have g3 : 0 ≤ b * c := Int.mul_nonneg h1 h6
  have g4 : 0 ≤ b * d := Int.mul_nonneg h1 h3
  generalize a * c = p at *
  generalize a * d = q at *
  generalize b * c = r at *
  generalize b * d = s at *
  omega
theorem fdiv_pos {a b : Int} (h : 0 ≤ b) : a.fdiv b = a / b := Int.fdiv_eq_ediv_of_nonneg a h
theorem kinds2 {ρ : Env} {k l : Iv} (h : ∀ (i : Nat) (m : Iv), [k, l][i]? = some m → m.has (ρ.v i)) : k.has (ρ.v 0) ∧ l.has (ρ.v 1) := ⟨h 0 k rfl, h 1 l rfl⟩
theorem mul64S_exch : Exch mul64E mul64S := ⟨⟨rfl, rfl, rfl, rfl⟩, rfl, fun D _ hk => by
  obtain ⟨⟨a1, a2⟩, b1, b2⟩ := kinds2 hk
  simp only [ivT] at a1 a2 b1 b2
  have h := mul64_hi (D.env.v 0) (D.env.v 1) a1 (by omega) b1 (by omega)
  simp only [mul64E, mul64S, STree.ev, SV.den, SV.denL, Option.map_some, Option.bind_some, Poly.ev, Mono.ev, E.ev]
  have c1 : (Int.ofNat 1) = 1 := rfl
  have c2 : (Int.ofNat 4294967296) = 4294967296 := rfl
  have c3 : ((4294967296 : Nat) : Int) = 4294967296 := rfl
  simp only [c1, c2, c3, Int.one_mul, Int.mul_one, Int.add_zero]
  rw [fdiv_pos (by decide), fdiv_pos (by decide), fdiv_pos (by decide), fdiv_pos (by decide), fdiv_pos (by decide), fdiv_pos (by decide), ← Int.add_assoc, h]⟩

/-! ### magnitude(n) -/
def magA : List SV := [.int .i64 [([.var 0], 1)]]
def magE : Summ := ⟨magA, [ivT .i64], .test (.le [([], 1), ([.var 0], 1)]) (.leaf (.int .u64 [([.wrap .u64 (.mul (.lit (-1)) (.wrap .u64 (.var 0)))], 1)])) (.leaf (.int .u64 [([.var 0], 1)])), [], []⟩
def magS : Summ := ⟨magA, [ivT .i64], .test (.le [([], 1), ([.var 0], 1)]) (.leaf (.int .u64 [([.var 0], -1)])) (.leaf (.int .u64 [([.var 0], 1)])), [], []⟩
theorem wrap64u (n : Int) : IntKind.u64.wrap n = n % 18446744073709551616 := by simp [IntKind.wrap, IntKind.bits, IntKind.signed]
theorem magS_exch : Exch magE magS := ⟨⟨rfl, rfl, rfl, rfl⟩, rfl, fun D _ hk => by
  have a := hk 0 _ rfl
  obtain ⟨a1, a2⟩ := a
  simp only [ivT] at a1 a2
  simp only [magE, magS, ev_le, ev_one, Poly.ev, Mono.ev, E.ev, wrap64u]
  by_cases h : 1 * 1 + (1 * (D.env.v 0 * 1) + 0) ≤ 0
  · simp only [h, if_true]
    congr 2
    omega
  · simp only [h, if_false]⟩

/-! ### Products with a limit: surd.product, factor.times -/
def ints2A : List SV := [.int .i64 [([.var 0], 1)], .int .i64 [([.var 1], 1)]]
def prodT (L : Int) : STree := .test (.le [([], -L), ([.var 0, .var 1], 1)]) (.test (.le [([], -L), ([.var 0, .var 1], -1)]) (.leaf (.int .i64 [([.var 0, .var 1], 1)])) (.leaf (.int .i64 [([], L + 1)]))) (.leaf (.int .i64 [([], L + 1)]))
def prod60K : List Iv := [ivT .i64, ivT .i64]
def prod59K : List Iv := [⟨-576460752303423488, 576460752303423488⟩, ⟨-576460752303423488, 576460752303423488⟩]
def prod60S : Summ := ⟨ints2A, prod60K, prodT 1152921504606846976, [], []⟩
def prod59S : Summ := ⟨ints2A, prod59K, prodT 576460752303423488, [], []⟩
def prod60E : Summ := ⟨ints2A, prod60K, (.test (.le [([], (Int.ofNat (nat_lit 1))), ([(.var (nat_lit 0))], (Int.ofNat (nat_lit 1)))])
  (.test (.le [([], (Int.ofNat (nat_lit 1))), ([(.var (nat_lit 1))], (Int.ofNat (nat_lit 1)))])
  (.test (.le [([], (Int.ofNat (nat_lit 1))), ([(.fdiv (.mul (.var (nat_lit 0)) (.var (nat_lit 1))) (.lit (Int.ofNat (nat_lit 18446744073709551616))))], (Int.negSucc (nat_lit 0)))])
  (.leaf (.int .i64 [([], (Int.ofNat (nat_lit 1152921504606846977)))]))
  (.test (.le [([], (Int.ofNat (nat_lit 1152921504606846977))), ([(.wrap .u64 (.mul (.var (nat_lit 0)) (.var (nat_lit 1))))], (Int.negSucc (nat_lit 0)))])
  (.leaf (.int .i64 [([], (Int.ofNat (nat_lit 1152921504606846977)))]))
  (.leaf (.int .i64 [([(.wrap .u64 (.mul (.var (nat_lit 0)) (.var (nat_lit 1))))], (Int.ofNat (nat_lit 1)))]))))
  (.test (.le [([], (Int.ofNat (nat_lit 1))), ([(.fdiv (.mul (.lit (Int.negSucc (nat_lit 0))) (.mul (.var (nat_lit 0)) (.var (nat_lit 1)))) (.lit (Int.ofNat (nat_lit 18446744073709551616))))], (Int.negSucc (nat_lit 0)))])
  (.leaf (.int .i64 [([], (Int.ofNat (nat_lit 1152921504606846977)))]))
  (.test (.le [([], (Int.ofNat (nat_lit 1152921504606846977))), ([(.wrap .u64 (.mul (.lit (Int.negSucc (nat_lit 0))) (.mul (.var (nat_lit 0)) (.var (nat_lit 1)))))], (Int.negSucc (nat_lit 0)))])
  (.leaf (.int .i64 [([], (Int.ofNat (nat_lit 1152921504606846977)))]))
  (.leaf (.int .i64 [([(.wrap .u64 (.mul (.lit (Int.negSucc (nat_lit 0))) (.mul (.var (nat_lit 0)) (.var (nat_lit 1)))))], (Int.negSucc (nat_lit 0)))])))))
  (.test (.le [([], (Int.ofNat (nat_lit 1))), ([(.var (nat_lit 1))], (Int.ofNat (nat_lit 1)))])
  (.test (.le [([], (Int.ofNat (nat_lit 1))), ([(.fdiv (.mul (.lit (Int.negSucc (nat_lit 0))) (.mul (.var (nat_lit 0)) (.var (nat_lit 1)))) (.lit (Int.ofNat (nat_lit 18446744073709551616))))], (Int.negSucc (nat_lit 0)))])
  (.leaf (.int .i64 [([], (Int.ofNat (nat_lit 1152921504606846977)))]))
  (.test (.le [([], (Int.ofNat (nat_lit 1152921504606846977))), ([(.wrap .u64 (.mul (.lit (Int.negSucc (nat_lit 0))) (.mul (.var (nat_lit 0)) (.var (nat_lit 1)))))], (Int.negSucc (nat_lit 0)))])
  (.leaf (.int .i64 [([], (Int.ofNat (nat_lit 1152921504606846977)))]))
  (.leaf (.int .i64 [([(.wrap .u64 (.mul (.lit (Int.negSucc (nat_lit 0))) (.mul (.var (nat_lit 0)) (.var (nat_lit 1)))))], (Int.negSucc (nat_lit 0)))]))))
  (.test (.le [([], (Int.ofNat (nat_lit 1))), ([(.fdiv (.mul (.var (nat_lit 0)) (.var (nat_lit 1))) (.lit (Int.ofNat (nat_lit 18446744073709551616))))], (Int.negSucc (nat_lit 0)))])
  (.leaf (.int .i64 [([], (Int.ofNat (nat_lit 1152921504606846977)))]))
  (.test (.le [([], (Int.ofNat (nat_lit 1152921504606846977))), ([(.wrap .u64 (.mul (.var (nat_lit 0)) (.var (nat_lit 1))))], (Int.negSucc (nat_lit 0)))])
  (.leaf (.int .i64 [([], (Int.ofNat (nat_lit 1152921504606846977)))]))
  (.leaf (.int .i64 [([(.wrap .u64 (.mul (.var (nat_lit 0)) (.var (nat_lit 1))))], (Int.ofNat (nat_lit 1)))])))))), [], []⟩
def prod59E : Summ := ⟨ints2A, prod59K, (.test (.le [([], (Int.ofNat (nat_lit 1))), ([(.var (nat_lit 1))], (Int.ofNat (nat_lit 2)))])
  (.test (.le [([], (Int.ofNat (nat_lit 1))), ([(.var (nat_lit 0))], (Int.ofNat (nat_lit 2)))])
  (.test (.le [([], (Int.ofNat (nat_lit 1))), ([(.fdiv (.mul (.var (nat_lit 0)) (.var (nat_lit 1))) (.lit (Int.ofNat (nat_lit 18446744073709551616))))], (Int.negSucc (nat_lit 0)))])
  (.leaf (.int .i64 [([], (Int.ofNat (nat_lit 576460752303423489)))]))
  (.test (.le [([], (Int.ofNat (nat_lit 576460752303423489))), ([(.wrap .u64 (.mul (.var (nat_lit 0)) (.var (nat_lit 1))))], (Int.negSucc (nat_lit 0)))])
  (.leaf (.int .i64 [([], (Int.ofNat (nat_lit 576460752303423489)))]))
  (.leaf (.int .i64 [([(.wrap .u64 (.mul (.var (nat_lit 0)) (.var (nat_lit 1))))], (Int.ofNat (nat_lit 1)))]))))
  (.test (.le [([], (Int.ofNat (nat_lit 1))), ([(.fdiv (.mul (.lit (Int.negSucc (nat_lit 0))) (.mul (.var (nat_lit 0)) (.var (nat_lit 1)))) (.lit (Int.ofNat (nat_lit 18446744073709551616))))], (Int.negSucc (nat_lit 0)))])
  (.leaf (.int .i64 [([], (Int.ofNat (nat_lit 576460752303423489)))]))
  (.test (.le [([], (Int.ofNat (nat_lit 576460752303423489))), ([(.wrap .u64 (.mul (.lit (Int.negSucc (nat_lit 0))) (.mul (.var (nat_lit 0)) (.var (nat_lit 1)))))], (Int.negSucc (nat_lit 0)))])
  (.leaf (.int .i64 [([], (Int.ofNat (nat_lit 576460752303423489)))]))
  (.leaf (.int .i64 [([(.wrap .u64 (.mul (.lit (Int.negSucc (nat_lit 0))) (.mul (.var (nat_lit 0)) (.var (nat_lit 1)))))], (Int.negSucc (nat_lit 0)))])))))
  (.test (.le [([], (Int.ofNat (nat_lit 1))), ([(.var (nat_lit 0))], (Int.ofNat (nat_lit 2)))])
  (.test (.le [([], (Int.ofNat (nat_lit 1))), ([(.fdiv (.mul (.lit (Int.negSucc (nat_lit 0))) (.mul (.var (nat_lit 0)) (.var (nat_lit 1)))) (.lit (Int.ofNat (nat_lit 18446744073709551616))))], (Int.negSucc (nat_lit 0)))])
  (.leaf (.int .i64 [([], (Int.ofNat (nat_lit 576460752303423489)))]))
  (.test (.le [([], (Int.ofNat (nat_lit 576460752303423489))), ([(.wrap .u64 (.mul (.lit (Int.negSucc (nat_lit 0))) (.mul (.var (nat_lit 0)) (.var (nat_lit 1)))))], (Int.negSucc (nat_lit 0)))])
  (.leaf (.int .i64 [([], (Int.ofNat (nat_lit 576460752303423489)))]))
  (.leaf (.int .i64 [([(.wrap .u64 (.mul (.lit (Int.negSucc (nat_lit 0))) (.mul (.var (nat_lit 0)) (.var (nat_lit 1)))))], (Int.negSucc (nat_lit 0)))]))))
  (.test (.le [([], (Int.ofNat (nat_lit 1))), ([(.fdiv (.mul (.var (nat_lit 0)) (.var (nat_lit 1))) (.lit (Int.ofNat (nat_lit 18446744073709551616))))], (Int.negSucc (nat_lit 0)))])
  (.leaf (.int .i64 [([], (Int.ofNat (nat_lit 576460752303423489)))]))
  (.test (.le [([], (Int.ofNat (nat_lit 576460752303423489))), ([(.wrap .u64 (.mul (.var (nat_lit 0)) (.var (nat_lit 1))))], (Int.negSucc (nat_lit 0)))])
  (.leaf (.int .i64 [([], (Int.ofNat (nat_lit 576460752303423489)))]))
  (.leaf (.int .i64 [([(.wrap .u64 (.mul (.var (nat_lit 0)) (.var (nat_lit 1))))], (Int.ofNat (nat_lit 1)))])))))), [], []⟩
theorem sign_mul2 (x y : Int) : (0 ≤ x → 0 ≤ y → 0 ≤ x * y) ∧ (x ≤ 0 → y ≤ 0 → 0 ≤ x * y) ∧ (0 ≤ x → y ≤ 0 → x * y ≤ 0) ∧ (x ≤ 0 → 0 ≤ y → x * y ≤ 0) :=
  ⟨Int.mul_nonneg, Int.mul_nonneg_of_nonpos_of_nonpos, Int.mul_nonpos_of_nonneg_of_nonpos, Int.mul_nonpos_of_nonpos_of_nonneg⟩
theorem ofNat_lit (n : Nat) : Int.ofNat n = (n : Int) := rfl
theorem prod60S_exch : Exch prod60E prod60S := ⟨⟨rfl, rfl, rfl, rfl⟩, rfl, fun D _ _ => by
  have hs := sign_mul2 (D.env.v 0) (D.env.v 1)
  simp only [prod60E, prod60S, prodT, ev_le, ev_one, Poly.ev, Mono.ev, E.ev, wrap64u, ofNat_lit, Int.mul_one, Int.negSucc_eq]
  generalize D.env.v 0 * D.env.v 1 = p at *
  rw [fdiv_pos (by decide), fdiv_pos (by decide)]
  repeat' split
  all_goals first | rfl | (congr 2 <;> omega) | (exfalso; omega)⟩
theorem prod59S_exch : Exch prod59E prod59S := ⟨⟨rfl, rfl, rfl, rfl⟩, rfl, fun D _ _ => by
  have hs := sign_mul2 (D.env.v 0) (D.env.v 1)
  simp only [prod59E, prod59S, prodT, ev_le, ev_one, Poly.ev, Mono.ev, E.ev, wrap64u, ofNat_lit, Int.mul_one, Int.negSucc_eq]
  generalize D.env.v 0 * D.env.v 1 = p at *
  rw [fdiv_pos (by decide), fdiv_pos (by decide)]
  repeat' split
  all_goals first | rfl | (congr 2 <;> omega) | (exfalso; omega)⟩

/-! ### surd.Sign -/
def surdA : List SV := [.agg [.int .i64 [([.var 0], 1)], .int .i64 [([.var 1], 1)]]]
def sgnE : Summ := ⟨surdA, [ivT .i64, ivT .i64], (.test (.le [([], (Int.ofNat (nat_lit 1))), ([(.var (nat_lit 0))], (Int.ofNat (nat_lit 1)))])
  (.test (.le [([], (Int.ofNat (nat_lit 1))), ([(.var (nat_lit 1))], (Int.ofNat (nat_lit 1)))])
  (.leaf (.int .i64 [([], (Int.negSucc (nat_lit 0)))]))
  (.test (.le [([], (Int.ofNat (nat_lit 1))), ([(.var (nat_lit 1))], (Int.negSucc (nat_lit 0)))])
  (.test (.le [([], (Int.ofNat (nat_lit 1))), ([(.fdiv (.mul (.lit (Int.ofNat (nat_lit 3))) (.wrap .u64 (.mul (.var (nat_lit 1)) (.var (nat_lit 1))))) (.lit (Int.ofNat (nat_lit 18446744073709551616))))], (Int.negSucc (nat_lit 0))), ([(.fdiv (.mul (.var (nat_lit 0)) (.var (nat_lit 0))) (.lit (Int.ofNat (nat_lit 18446744073709551616))))], (Int.ofNat (nat_lit 1))), ([(.fdiv (.mul (.var (nat_lit 1)) (.var (nat_lit 1))) (.lit (Int.ofNat (nat_lit 18446744073709551616))))], (Int.negSucc (nat_lit 2)))])
  (.leaf (.int .i64 [([], (Int.ofNat (nat_lit 1)))]))
  (.test (.le [([], (Int.ofNat (nat_lit 1))), ([(.fdiv (.mul (.lit (Int.ofNat (nat_lit 3))) (.wrap .u64 (.mul (.var (nat_lit 1)) (.var (nat_lit 1))))) (.lit (Int.ofNat (nat_lit 18446744073709551616))))], (Int.ofNat (nat_lit 1))), ([(.fdiv (.mul (.var (nat_lit 0)) (.var (nat_lit 0))) (.lit (Int.ofNat (nat_lit 18446744073709551616))))], (Int.negSucc (nat_lit 0))), ([(.fdiv (.mul (.var (nat_lit 1)) (.var (nat_lit 1))) (.lit (Int.ofNat (nat_lit 18446744073709551616))))], (Int.ofNat (nat_lit 3)))])
  (.leaf (.int .i64 [([], (Int.negSucc (nat_lit 0)))]))
  (.test (.le [([], (Int.ofNat (nat_lit 1))), ([(.wrap .u64 (.mul (.lit (Int.ofNat (nat_lit 3))) (.wrap .u64 (.mul (.var (nat_lit 1)) (.var (nat_lit 1))))))], (Int.negSucc (nat_lit 0))), ([(.wrap .u64 (.mul (.var (nat_lit 0)) (.var (nat_lit 0))))], (Int.ofNat (nat_lit 1)))])
  (.leaf (.int .i64 [([], (Int.ofNat (nat_lit 1)))]))
  (.test (.le [([], (Int.ofNat (nat_lit 1))), ([(.wrap .u64 (.mul (.lit (Int.ofNat (nat_lit 3))) (.wrap .u64 (.mul (.var (nat_lit 1)) (.var (nat_lit 1))))))], (Int.ofNat (nat_lit 1))), ([(.wrap .u64 (.mul (.var (nat_lit 0)) (.var (nat_lit 0))))], (Int.negSucc (nat_lit 0)))])
  (.leaf (.int .i64 [([], (Int.negSucc (nat_lit 0)))]))
  (.leaf (.int .i64 []))))))
  (.leaf (.int .i64 [([], (Int.negSucc (nat_lit 0)))]))))
  (.test (.le [([], (Int.ofNat (nat_lit 1))), ([(.var (nat_lit 0))], (Int.negSucc (nat_lit 0)))])
  (.test (.le [([], (Int.ofNat (nat_lit 1))), ([(.var (nat_lit 1))], (Int.ofNat (nat_lit 1)))])
  (.test (.le [([], (Int.ofNat (nat_lit 1))), ([(.fdiv (.mul (.lit (Int.ofNat (nat_lit 3))) (.wrap .u64 (.mul (.var (nat_lit 1)) (.var (nat_lit 1))))) (.lit (Int.ofNat (nat_lit 18446744073709551616))))], (Int.negSucc (nat_lit 0))), ([(.fdiv (.mul (.var (nat_lit 0)) (.var (nat_lit 0))) (.lit (Int.ofNat (nat_lit 18446744073709551616))))], (Int.ofNat (nat_lit 1))), ([(.fdiv (.mul (.var (nat_lit 1)) (.var (nat_lit 1))) (.lit (Int.ofNat (nat_lit 18446744073709551616))))], (Int.negSucc (nat_lit 2)))])
  (.leaf (.int .i64 [([], (Int.negSucc (nat_lit 0)))]))
  (.test (.le [([], (Int.ofNat (nat_lit 1))), ([(.fdiv (.mul (.lit (Int.ofNat (nat_lit 3))) (.wrap .u64 (.mul (.var (nat_lit 1)) (.var (nat_lit 1))))) (.lit (Int.ofNat (nat_lit 18446744073709551616))))], (Int.ofNat (nat_lit 1))), ([(.fdiv (.mul (.var (nat_lit 0)) (.var (nat_lit 0))) (.lit (Int.ofNat (nat_lit 18446744073709551616))))], (Int.negSucc (nat_lit 0))), ([(.fdiv (.mul (.var (nat_lit 1)) (.var (nat_lit 1))) (.lit (Int.ofNat (nat_lit 18446744073709551616))))], (Int.ofNat (nat_lit 3)))])
  (.leaf (.int .i64 [([], (Int.ofNat (nat_lit 1)))]))
  (.test (.le [([], (Int.ofNat (nat_lit 1))), ([(.wrap .u64 (.mul (.lit (Int.ofNat (nat_lit 3))) (.wrap .u64 (.mul (.var (nat_lit 1)) (.var (nat_lit 1))))))], (Int.negSucc (nat_lit 0))), ([(.wrap .u64 (.mul (.var (nat_lit 0)) (.var (nat_lit 0))))], (Int.ofNat (nat_lit 1)))])
  (.leaf (.int .i64 [([], (Int.negSucc (nat_lit 0)))]))
  (.test (.le [([], (Int.ofNat (nat_lit 1))), ([(.wrap .u64 (.mul (.lit (Int.ofNat (nat_lit 3))) (.wrap .u64 (.mul (.var (nat_lit 1)) (.var (nat_lit 1))))))], (Int.ofNat (nat_lit 1))), ([(.wrap .u64 (.mul (.var (nat_lit 0)) (.var (nat_lit 0))))], (Int.negSucc (nat_lit 0)))])
  (.leaf (.int .i64 [([], (Int.ofNat (nat_lit 1)))]))
  (.leaf (.int .i64 []))))))
  (.test (.le [([], (Int.ofNat (nat_lit 1))), ([(.var (nat_lit 1))], (Int.negSucc (nat_lit 0)))])
  (.leaf (.int .i64 [([], (Int.ofNat (nat_lit 1)))]))
  (.leaf (.int .i64 [([], (Int.ofNat (nat_lit 1)))]))))
  (.test (.le [([], (Int.ofNat (nat_lit 1))), ([(.var (nat_lit 1))], (Int.ofNat (nat_lit 1)))])
  (.leaf (.int .i64 [([], (Int.negSucc (nat_lit 0)))]))
  (.test (.le [([], (Int.ofNat (nat_lit 1))), ([(.var (nat_lit 1))], (Int.negSucc (nat_lit 0)))])
  (.leaf (.int .i64 [([], (Int.ofNat (nat_lit 1)))]))
  (.leaf (.int .i64 [])))))), [], []⟩
def sgnS : Summ := ⟨surdA, [ivT .i64, ivT .i64], .leaf (.int .i64 [([.app 0 (.var 0) (.var 1) (.lit 0)], 1)]), [], []⟩
theorem sq_abs (x : Int) : (0 ≤ x → x * x.natAbs = x * x) ∧ (x ≤ 0 → x * x.natAbs = -(x * x)) ∧ 0 ≤ x * x ∧ (x ≠ 0 → 1 ≤ x * x) := by
  refine ⟨fun h => by rw [show ((x.natAbs : Nat) : Int) = x by omega], fun h => by rw [show ((x.natAbs : Nat) : Int) = -x by omega, Int.mul_neg], mul_self_nonneg' x, fun h => ?_⟩
  have : x * x ≠ 0 := fun e => by rcases Int.mul_eq_zero.1 e with e | e <;> exact h e
  have := mul_self_nonneg' x
  omega
theorem sign_cases (n : Int) : (0 < n → n.sign = 1) ∧ (n < 0 → n.sign = -1) ∧ (n = 0 → n.sign = 0) :=
  ⟨Int.sign_eq_one_of_pos, Int.sign_eq_neg_one_of_neg, fun h => by rw [h]; rfl⟩
theorem sgnS_exch : Exch sgnE sgnS := ⟨⟨rfl, rfl, rfl, rfl⟩, rfl, fun D hf _ => by
  simp only [sgnE, sgnS, ev_le, ev_one, Poly.ev, Mono.ev, E.ev, hf, stdF, ssign, wrap64u, ofNat_lit, Int.mul_one, Int.negSucc_eq]
  have ha := sq_abs (D.env.v 0)
  have hb := sq_abs (D.env.v 1)
  generalize D.env.v 0 * (D.env.v 0).natAbs = a at *
  generalize D.env.v 1 * (D.env.v 1).natAbs = b at *
  generalize D.env.v 0 * D.env.v 0 = p at *
  generalize D.env.v 1 * D.env.v 1 = q at *
  have hc := sign_cases (a + 3 * b)
  generalize (a + 3 * b).sign = s at *
  simp only [fdiv_pos (show (0 : Int) ≤ ((18446744073709551616 : Nat) : Int) by decide)]
  repeat' split
  all_goals first | rfl | (congr 2 <;> omega) | (exfalso; omega)⟩

/-! ### Digits compared: the numbers are compared -/

def cmp1A : List SV := [.aslice 1000 1 1, .aslice 1001 1 1]
def cmp1R : List (List SV) := [[.int .u32 [([.var 0], 1)]], [.int .u32 [([.var 1], 1)]]]
def cmp1K : List Iv := [ivT .u32, ivT .u32]
def cmp1E : Summ := ⟨cmp1A, cmp1K, (.test (.le [([], 1), ([.var 0], 1), ([.var 1], -1)]) (.leaf (.int .i64 [([], -1)])) (.test (.le [([], 1), ([.var 0], -1), ([.var 1], 1)]) (.leaf (.int .i64 [([], 1)])) (.leaf (.int .i64 [])))), cmp1R, []⟩
def cmp1S : Summ := ⟨cmp1A, cmp1K, .test (.le [([], 1), ([.var 0], 1), ([.var 1], -1)]) (.leaf (.int .i64 [([], -1)])) (.test (.le [([], 1), ([.var 0], -1), ([.var 1], 1)]) (.leaf (.int .i64 [([], 1)])) (.leaf (.int .i64 []))), cmp1R, []⟩
theorem cmp1S_exch : Exch cmp1E cmp1S := ⟨⟨rfl, rfl, rfl, rfl⟩, rfl, fun _ _ _ => rfl⟩

def cmp2A : List SV := [.aslice 1000 2 2, .aslice 1001 2 2]
def cmp2R : List (List SV) := [[.int .u32 [([.var 0], 1)], .int .u32 [([.var 1], 1)]], [.int .u32 [([.var 2], 1)], .int .u32 [([.var 3], 1)]]]
def cmp2K : List Iv := [ivT .u32, ivT .u32, ivT .u32, ivT .u32]
def cmp2E : Summ := ⟨cmp2A, cmp2K, (.test (.le [([], 1), ([.var 1], 1), ([.var 3], -1)]) (.leaf (.int .i64 [([], -1)])) (.test (.le [([], 1), ([.var 1], -1), ([.var 3], 1)]) (.leaf (.int .i64 [([], 1)])) (.test (.le [([], 1), ([.var 0], 1), ([.var 2], -1)]) (.leaf (.int .i64 [([], -1)])) (.test (.le [([], 1), ([.var 0], -1), ([.var 2], 1)]) (.leaf (.int .i64 [([], 1)])) (.leaf (.int .i64 [])))))), cmp2R, []⟩
def cmp2S : Summ := ⟨cmp2A, cmp2K, .test (.le [([], 1), ([.var 0], 1), ([.var 1], 4294967296), ([.var 2], -1), ([.var 3], -4294967296)]) (.leaf (.int .i64 [([], -1)])) (.test (.le [([], 1), ([.var 0], -1), ([.var 1], -4294967296), ([.var 2], 1), ([.var 3], 4294967296)]) (.leaf (.int .i64 [([], 1)])) (.leaf (.int .i64 []))), cmp2R, []⟩
theorem cmp2S_exch : Exch cmp2E cmp2S := ⟨⟨rfl, rfl, rfl, rfl⟩, rfl, fun D _ hk => by
  have h0 := hk 0 _ rfl
  have h1 := hk 1 _ rfl
  have h2 := hk 2 _ rfl
  have h3 := hk 3 _ rfl
  simp only [cmp2E, cmp2S, ev_le, ev_one, Poly.ev, Mono.ev, E.ev, Int.mul_one]
  simp only [ivT, Iv.has] at h0 h1 h2 h3
  generalize D.env.v 0 = x0 at *
  generalize D.env.v 1 = x1 at *
  generalize D.env.v 2 = x2 at *
  generalize D.env.v 3 = x3 at *
  repeat' split
  all_goals first | rfl | (exfalso; omega)⟩

def cmp3A : List SV := [.aslice 1000 3 3, .aslice 1001 3 3]
def cmp3R : List (List SV) := [[.int .u32 [([.var 0], 1)], .int .u32 [([.var 1], 1)], .int .u32 [([.var 2], 1)]], [.int .u32 [([.var 3], 1)], .int .u32 [([.var 4], 1)], .int .u32 [([.var 5], 1)]]]
def cmp3K : List Iv := [ivT .u32, ivT .u32, ivT .u32, ivT .u32, ivT .u32, ivT .u32]
def cmp3E : Summ := ⟨cmp3A, cmp3K, (.test (.le [([], 1), ([.var 2], 1), ([.var 5], -1)]) (.leaf (.int .i64 [([], -1)])) (.test (.le [([], 1), ([.var 2], -1), ([.var 5], 1)]) (.leaf (.int .i64 [([], 1)])) (.test (.le [([], 1), ([.var 1], 1), ([.var 4], -1)]) (.leaf (.int .i64 [([], -1)])) (.test (.le [([], 1), ([.var 1], -1), ([.var 4], 1)]) (.leaf (.int .i64 [([], 1)])) (.test (.le [([], 1), ([.var 0], 1), ([.var 3], -1)]) (.leaf (.int .i64 [([], -1)])) (.test (.le [([], 1), ([.var 0], -1), ([.var 3], 1)]) (.leaf (.int .i64 [([], 1)])) (.leaf (.int .i64 [])))))))), cmp3R, []⟩
def cmp3S : Summ := ⟨cmp3A, cmp3K, .test (.le [([], 1), ([.var 0], 1), ([.var 1], 4294967296), ([.var 2], 18446744073709551616), ([.var 3], -1), ([.var 4], -4294967296), ([.var 5], -18446744073709551616)]) (.leaf (.int .i64 [([], -1)])) (.test (.le [([], 1), ([.var 0], -1), ([.var 1], -4294967296), ([.var 2], -18446744073709551616), ([.var 3], 1), ([.var 4], 4294967296), ([.var 5], 18446744073709551616)]) (.leaf (.int .i64 [([], 1)])) (.leaf (.int .i64 []))), cmp3R, []⟩
theorem cmp3S_exch : Exch cmp3E cmp3S := ⟨⟨rfl, rfl, rfl, rfl⟩, rfl, fun D _ hk => by
  have h0 := hk 0 _ rfl
  have h1 := hk 1 _ rfl
  have h2 := hk 2 _ rfl
  have h3 := hk 3 _ rfl
  have h4 := hk 4 _ rfl
  have h5 := hk 5 _ rfl
  simp only [cmp3E, cmp3S, ev_le, ev_one, Poly.ev, Mono.ev, E.ev, Int.mul_one]
  simp only [ivT, Iv.has] at h0 h1 h2 h3 h4 h5
  generalize D.env.v 0 = x0 at *
  generalize D.env.v 1 = x1 at *
  generalize D.env.v 2 = x2 at *
  generalize D.env.v 3 = x3 at *
  generalize D.env.v 4 = x4 at *
  generalize D.env.v 5 = x5 at *
  repeat' split
  all_goals first | rfl | (exfalso; omega)⟩

def cmp4A : List SV := [.aslice 1000 4 4, .aslice 1001 4 4]
def cmp4R : List (List SV) := [[.int .u32 [([.var 0], 1)], .int .u32 [([.var 1], 1)], .int .u32 [([.var 2], 1)], .int .u32 [([.var 3], 1)]], [.int .u32 [([.var 4], 1)], .int .u32 [([.var 5], 1)], .int .u32 [([.var 6], 1)], .int .u32 [([.var 7], 1)]]]
def cmp4K : List Iv := [ivT .u32, ivT .u32, ivT .u32, ivT .u32, ivT .u32, ivT .u32, ivT .u32, ivT .u32]
def cmp4E : Summ := ⟨cmp4A, cmp4K, (.test (.le [([], 1), ([.var 3], 1), ([.var 7], -1)]) (.leaf (.int .i64 [([], -1)])) (.test (.le [([], 1), ([.var 3], -1), ([.var 7], 1)]) (.leaf (.int .i64 [([], 1)])) (.test (.le [([], 1), ([.var 2], 1), ([.var 6], -1)]) (.leaf (.int .i64 [([], -1)])) (.test (.le [([], 1), ([.var 2], -1), ([.var 6], 1)]) (.leaf (.int .i64 [([], 1)])) (.test (.le [([], 1), ([.var 1], 1), ([.var 5], -1)]) (.leaf (.int .i64 [([], -1)])) (.test (.le [([], 1), ([.var 1], -1), ([.var 5], 1)]) (.leaf (.int .i64 [([], 1)])) (.test (.le [([], 1), ([.var 0], 1), ([.var 4], -1)]) (.leaf (.int .i64 [([], -1)])) (.test (.le [([], 1), ([.var 0], -1), ([.var 4], 1)]) (.leaf (.int .i64 [([], 1)])) (.leaf (.int .i64 [])))))))))), cmp4R, []⟩
def cmp4S : Summ := ⟨cmp4A, cmp4K, .test (.le [([], 1), ([.var 0], 1), ([.var 1], 4294967296), ([.var 2], 18446744073709551616), ([.var 3], 79228162514264337593543950336), ([.var 4], -1), ([.var 5], -4294967296), ([.var 6], -18446744073709551616), ([.var 7], -79228162514264337593543950336)]) (.leaf (.int .i64 [([], -1)])) (.test (.le [([], 1), ([.var 0], -1), ([.var 1], -4294967296), ([.var 2], -18446744073709551616), ([.var 3], -79228162514264337593543950336), ([.var 4], 1), ([.var 5], 4294967296), ([.var 6], 18446744073709551616), ([.var 7], 79228162514264337593543950336)]) (.leaf (.int .i64 [([], 1)])) (.leaf (.int .i64 []))), cmp4R, []⟩
theorem cmp4S_exch : Exch cmp4E cmp4S := ⟨⟨rfl, rfl, rfl, rfl⟩, rfl, fun D _ hk => by
  have h0 := hk 0 _ rfl
  have h1 := hk 1 _ rfl
  have h2 := hk 2 _ rfl
  have h3 := hk 3 _ rfl
  have h4 := hk 4 _ rfl
  have h5 := hk 5 _ rfl
  have h6 := hk 6 _ rfl
  have h7 := hk 7 _ rfl
  simp only [cmp4E, cmp4S, ev_le, ev_one, Poly.ev, Mono.ev, E.ev, Int.mul_one]
  simp only [ivT, Iv.has] at h0 h1 h2 h3 h4 h5 h6 h7
  generalize D.env.v 0 = x0 at *
  generalize D.env.v 1 = x1 at *
  generalize D.env.v 2 = x2 at *
  generalize D.env.v 3 = x3 at *
  generalize D.env.v 4 = x4 at *
  generalize D.env.v 5 = x5 at *
  generalize D.env.v 6 = x6 at *
  generalize D.env.v 7 = x7 at *
  repeat' split
  all_goals first | rfl | (exfalso; omega)⟩

def cmp5A : List SV := [.aslice 1000 5 5, .aslice 1001 5 5]
def cmp5R : List (List SV) := [[.int .u32 [([.var 0], 1)], .int .u32 [([.var 1], 1)], .int .u32 [([.var 2], 1)], .int .u32 [([.var 3], 1)], .int .u32 [([.var 4], 1)]], [.int .u32 [([.var 5], 1)], .int .u32 [([.var 6], 1)], .int .u32 [([.var 7], 1)], .int .u32 [([.var 8], 1)], .int .u32 [([.var 9], 1)]]]
def cmp5K : List Iv := [ivT .u32, ivT .u32, ivT .u32, ivT .u32, ivT .u32, ivT .u32, ivT .u32, ivT .u32, ivT .u32, ivT .u32]
def cmp5E : Summ := ⟨cmp5A, cmp5K, (.test (.le [([], 1), ([.var 4], 1), ([.var 9], -1)]) (.leaf (.int .i64 [([], -1)])) (.test (.le [([], 1), ([.var 4], -1), ([.var 9], 1)]) (.leaf (.int .i64 [([], 1)])) (.test (.le [([], 1), ([.var 3], 1), ([.var 8], -1)]) (.leaf (.int .i64 [([], -1)])) (.test (.le [([], 1), ([.var 3], -1), ([.var 8], 1)]) (.leaf (.int .i64 [([], 1)])) (.test (.le [([], 1), ([.var 2], 1), ([.var 7], -1)]) (.leaf (.int .i64 [([], -1)])) (.test (.le [([], 1), ([.var 2], -1), ([.var 7], 1)]) (.leaf (.int .i64 [([], 1)])) (.test (.le [([], 1), ([.var 1], 1), ([.var 6], -1)]) (.leaf (.int .i64 [([], -1)])) (.test (.le [([], 1), ([.var 1], -1), ([.var 6], 1)]) (.leaf (.int .i64 [([], 1)])) (.test (.le [([], 1), ([.var 0], 1), ([.var 5], -1)]) (.leaf (.int .i64 [([], -1)])) (.test (.le [([], 1), ([.var 0], -1), ([.var 5], 1)]) (.leaf (.int .i64 [([], 1)])) (.leaf (.int .i64 [])))))))))))), cmp5R, []⟩
def cmp5S : Summ := ⟨cmp5A, cmp5K, .test (.le [([], 1), ([.var 0], 1), ([.var 1], 4294967296), ([.var 2], 18446744073709551616), ([.var 3], 79228162514264337593543950336), ([.var 4], 340282366920938463463374607431768211456), ([.var 5], -1), ([.var 6], -4294967296), ([.var 7], -18446744073709551616), ([.var 8], -79228162514264337593543950336), ([.var 9], -340282366920938463463374607431768211456)]) (.leaf (.int .i64 [([], -1)])) (.test (.le [([], 1), ([.var 0], -1), ([.var 1], -4294967296), ([.var 2], -18446744073709551616), ([.var 3], -79228162514264337593543950336), ([.var 4], -340282366920938463463374607431768211456), ([.var 5], 1), ([.var 6], 4294967296), ([.var 7], 18446744073709551616), ([.var 8], 79228162514264337593543950336), ([.var 9], 340282366920938463463374607431768211456)]) (.leaf (.int .i64 [([], 1)])) (.leaf (.int .i64 []))), cmp5R, []⟩
theorem cmp5S_exch : Exch cmp5E cmp5S := ⟨⟨rfl, rfl, rfl, rfl⟩, rfl, fun D _ hk => by
  have h0 := hk 0 _ rfl
  have h1 := hk 1 _ rfl
  have h2 := hk 2 _ rfl
  have h3 := hk 3 _ rfl
  have h4 := hk 4 _ rfl
  have h5 := hk 5 _ rfl
  have h6 := hk 6 _ rfl
  have h7 := hk 7 _ rfl
  have h8 := hk 8 _ rfl
  have h9 := hk 9 _ rfl
  simp only [cmp5E, cmp5S, ev_le, ev_one, Poly.ev, Mono.ev, E.ev, Int.mul_one]
  simp only [ivT, Iv.has] at h0 h1 h2 h3 h4 h5 h6 h7 h8 h9
  generalize D.env.v 0 = x0 at *
  generalize D.env.v 1 = x1 at *
  generalize D.env.v 2 = x2 at *
  generalize D.env.v 3 = x3 at *
  generalize D.env.v 4 = x4 at *
  generalize D.env.v 5 = x5 at *
  generalize D.env.v 6 = x6 at *
  generalize D.env.v 7 = x7 at *
  generalize D.env.v 8 = x8 at *
  generalize D.env.v 9 = x9 at *
  repeat' split
  all_goals first | rfl | (exfalso; omega)⟩

/-! ### substationref02.Sign -/
def sgnrE : Summ := ⟨surdA, [ivT .i64, ivT .i64], (.test (.le [([], (Int.ofNat (nat_lit 1))), ([(.var (nat_lit 0))], (Int.ofNat (nat_lit 1)))])
  (.test (.le [([], (Int.negSucc (nat_lit 4294967294))), ([(.var (nat_lit 0))], (Int.negSucc (nat_lit 0)))])
  (.test (.le [([], (Int.ofNat (nat_lit 1))), ([(.var (nat_lit 1))], (Int.ofNat (nat_lit 1)))])
  (.test (.le [([], (Int.negSucc (nat_lit 4294967294))), ([(.var (nat_lit 1))], (Int.negSucc (nat_lit 0)))])
  (.leaf (.int .i64 [([], (Int.negSucc (nat_lit 0)))]))
  (.leaf (.int .i64 [([], (Int.negSucc (nat_lit 0)))])))
  (.test (.le [([], (Int.negSucc (nat_lit 4294967294))), ([(.var (nat_lit 1))], (Int.ofNat (nat_lit 1)))])
  (.test (.eq [([(.var (nat_lit 1))], (Int.ofNat (nat_lit 1)))])
  (.leaf (.int .i64 [([], (Int.negSucc (nat_lit 0)))]))
  (.test (.le [([], (Int.negSucc (nat_lit 4294967294))), ([(.var (nat_lit 0)), (.var (nat_lit 0))], (Int.ofNat (nat_lit 1)))])
  (.test (.le [([], (Int.negSucc (nat_lit 4294967294))), ([(.var (nat_lit 1)), (.var (nat_lit 1))], (Int.ofNat (nat_lit 1)))])
  (.test (.le [([], (Int.negSucc (nat_lit 4294967294))), ([(.var (nat_lit 1)), (.var (nat_lit 1))], (Int.ofNat (nat_lit 3)))])
  (.test (.le [([], (Int.ofNat (nat_lit 1))), ([(.var (nat_lit 0)), (.var (nat_lit 0))], (Int.ofNat (nat_lit 1))), ([(.var (nat_lit 1)), (.var (nat_lit 1))], (Int.negSucc (nat_lit 2)))])
  (.leaf (.int .i64 [([], (Int.ofNat (nat_lit 1)))]))
  (.test (.le [([], (Int.ofNat (nat_lit 1))), ([(.var (nat_lit 0)), (.var (nat_lit 0))], (Int.negSucc (nat_lit 0))), ([(.var (nat_lit 1)), (.var (nat_lit 1))], (Int.ofNat (nat_lit 3)))])
  (.leaf (.int .i64 [([], (Int.negSucc (nat_lit 0)))]))
  (.leaf (.int .i64 []))))
  (.leaf (.int .i64 [([], (Int.ofNat (nat_lit 1)))])))
  (.test (.le [([], (Int.negSucc (nat_lit 18446744073709551614))), ([(.var (nat_lit 1)), (.var (nat_lit 1))], (Int.ofNat (nat_lit 3)))])
  (.leaf (.int .i64 [([], (Int.ofNat (nat_lit 1)))]))
  (.leaf (.int .i64 [([], (Int.ofNat (nat_lit 1)))]))))
  (.test (.le [([], (Int.negSucc (nat_lit 4294967294))), ([(.var (nat_lit 1)), (.var (nat_lit 1))], (Int.ofNat (nat_lit 1)))])
  (.test (.le [([], (Int.negSucc (nat_lit 4294967294))), ([(.var (nat_lit 1)), (.var (nat_lit 1))], (Int.ofNat (nat_lit 3)))])
  (.leaf (.int .i64 [([], (Int.negSucc (nat_lit 0)))]))
  (.test (.le [([], (Int.ofNat (nat_lit 1))), ([(.var (nat_lit 0)), (.var (nat_lit 0))], (Int.ofNat (nat_lit 1))), ([(.var (nat_lit 1)), (.var (nat_lit 1))], (Int.negSucc (nat_lit 2)))])
  (.leaf (.int .i64 [([], (Int.ofNat (nat_lit 1)))]))
  (.test (.le [([], (Int.ofNat (nat_lit 1))), ([(.var (nat_lit 0)), (.var (nat_lit 0))], (Int.negSucc (nat_lit 0))), ([(.var (nat_lit 1)), (.var (nat_lit 1))], (Int.ofNat (nat_lit 3)))])
  (.leaf (.int .i64 [([], (Int.negSucc (nat_lit 0)))]))
  (.leaf (.int .i64 [])))))
  (.test (.le [([], (Int.negSucc (nat_lit 18446744073709551614))), ([(.var (nat_lit 1)), (.var (nat_lit 1))], (Int.ofNat (nat_lit 3)))])
  (.test (.le [([], (Int.ofNat (nat_lit 1))), ([(.var (nat_lit 0)), (.var (nat_lit 0))], (Int.ofNat (nat_lit 1))), ([(.var (nat_lit 1)), (.var (nat_lit 1))], (Int.negSucc (nat_lit 2)))])
  (.leaf (.int .i64 [([], (Int.ofNat (nat_lit 1)))]))
  (.test (.le [([], (Int.ofNat (nat_lit 1))), ([(.var (nat_lit 0)), (.var (nat_lit 0))], (Int.negSucc (nat_lit 0))), ([(.var (nat_lit 1)), (.var (nat_lit 1))], (Int.ofNat (nat_lit 3)))])
  (.leaf (.int .i64 [([], (Int.negSucc (nat_lit 0)))]))
  (.leaf (.int .i64 []))))
  (.leaf (.int .i64 [([], (Int.ofNat (nat_lit 1)))]))))))
  (.test (.le [([], (Int.negSucc (nat_lit 4294967294))), ([(.var (nat_lit 0)), (.var (nat_lit 0))], (Int.ofNat (nat_lit 1)))])
  (.test (.le [([], (Int.negSucc (nat_lit 79228162514264337593543950334))), ([(.var (nat_lit 1)), (.var (nat_lit 1))], (Int.ofNat (nat_lit 1)))])
  (.test (.le [([], (Int.negSucc (nat_lit 18446744073709551614))), ([(.var (nat_lit 1)), (.var (nat_lit 1))], (Int.ofNat (nat_lit 1)))])
  (.leaf (.int .i64 [([], (Int.negSucc (nat_lit 0)))]))
  (.test (.le [([], (Int.negSucc (nat_lit 79228162514264337593543950334))), ([(.var (nat_lit 1)), (.var (nat_lit 1))], (Int.ofNat (nat_lit 3)))])
  (.leaf (.int .i64 [([], (Int.ofNat (nat_lit 1)))]))
  (.leaf (.int .i64 [([], (Int.ofNat (nat_lit 1)))]))))
  (.leaf (.int .i64 [([], (Int.ofNat (nat_lit 1)))])))
  (.test (.le [([], (Int.negSucc (nat_lit 79228162514264337593543950334))), ([(.var (nat_lit 1)), (.var (nat_lit 1))], (Int.ofNat (nat_lit 1)))])
  (.test (.le [([], (Int.negSucc (nat_lit 18446744073709551614))), ([(.var (nat_lit 1)), (.var (nat_lit 1))], (Int.ofNat (nat_lit 1)))])
  (.leaf (.int .i64 [([], (Int.negSucc (nat_lit 0)))]))
  (.test (.le [([], (Int.negSucc (nat_lit 79228162514264337593543950334))), ([(.var (nat_lit 1)), (.var (nat_lit 1))], (Int.ofNat (nat_lit 3)))])
  (.leaf (.int .i64 [([], (Int.ofNat (nat_lit 1)))]))
  (.leaf (.int .i64 [([], (Int.ofNat (nat_lit 1)))]))))
  (.leaf (.int .i64 [([], (Int.ofNat (nat_lit 1)))]))))))
  (.test (.le [([], (Int.ofNat (nat_lit 1))), ([(.var (nat_lit 1))], (Int.ofNat (nat_lit 1)))])
  (.test (.le [([], (Int.negSucc (nat_lit 4294967294))), ([(.var (nat_lit 1))], (Int.negSucc (nat_lit 0)))])
  (.leaf (.int .i64 [([], (Int.negSucc (nat_lit 0)))]))
  (.leaf (.int .i64 [([], (Int.negSucc (nat_lit 0)))])))
  (.test (.le [([], (Int.negSucc (nat_lit 4294967294))), ([(.var (nat_lit 1))], (Int.ofNat (nat_lit 1)))])
  (.test (.eq [([(.var (nat_lit 1))], (Int.ofNat (nat_lit 1)))])
  (.leaf (.int .i64 [([], (Int.negSucc (nat_lit 0)))]))
  (.test (.le [([], (Int.negSucc (nat_lit 79228162514264337593543950334))), ([(.var (nat_lit 0)), (.var (nat_lit 0))], (Int.ofNat (nat_lit 1)))])
  (.test (.le [([], (Int.negSucc (nat_lit 4294967294))), ([(.var (nat_lit 1)), (.var (nat_lit 1))], (Int.ofNat (nat_lit 1)))])
  (.test (.le [([], (Int.negSucc (nat_lit 4294967294))), ([(.var (nat_lit 1)), (.var (nat_lit 1))], (Int.ofNat (nat_lit 3)))])
  (.test (.le [([], (Int.negSucc (nat_lit 18446744073709551614))), ([(.var (nat_lit 0)), (.var (nat_lit 0))], (Int.ofNat (nat_lit 1)))])
  (.leaf (.int .i64 []))
  (.leaf (.int .i64 [([], (Int.negSucc (nat_lit 0)))])))
  (.test (.le [([], (Int.negSucc (nat_lit 18446744073709551614))), ([(.var (nat_lit 0)), (.var (nat_lit 0))], (Int.ofNat (nat_lit 1)))])
  (.leaf (.int .i64 []))
  (.leaf (.int .i64 [([], (Int.negSucc (nat_lit 0)))]))))
  (.test (.le [([], (Int.negSucc (nat_lit 18446744073709551614))), ([(.var (nat_lit 1)), (.var (nat_lit 1))], (Int.ofNat (nat_lit 3)))])
  (.test (.le [([], (Int.negSucc (nat_lit 18446744073709551614))), ([(.var (nat_lit 0)), (.var (nat_lit 0))], (Int.ofNat (nat_lit 1)))])
  (.leaf (.int .i64 []))
  (.leaf (.int .i64 [([], (Int.negSucc (nat_lit 0)))])))
  (.test (.le [([], (Int.negSucc (nat_lit 18446744073709551614))), ([(.var (nat_lit 0)), (.var (nat_lit 0))], (Int.ofNat (nat_lit 1)))])
  (.leaf (.int .i64 []))
  (.test (.le [([], (Int.ofNat (nat_lit 1))), ([(.var (nat_lit 0)), (.var (nat_lit 0))], (Int.ofNat (nat_lit 1))), ([(.var (nat_lit 1)), (.var (nat_lit 1))], (Int.negSucc (nat_lit 2)))])
  (.leaf (.int .i64 [([], (Int.ofNat (nat_lit 1)))]))
  (.test (.le [([], (Int.ofNat (nat_lit 1))), ([(.var (nat_lit 0)), (.var (nat_lit 0))], (Int.negSucc (nat_lit 0))), ([(.var (nat_lit 1)), (.var (nat_lit 1))], (Int.ofNat (nat_lit 3)))])
  (.leaf (.int .i64 [([], (Int.negSucc (nat_lit 0)))]))
  (.leaf (.int .i64 [])))))))
  (.test (.le [([], (Int.negSucc (nat_lit 4294967294))), ([(.var (nat_lit 1)), (.var (nat_lit 1))], (Int.ofNat (nat_lit 1)))])
  (.test (.le [([], (Int.negSucc (nat_lit 4294967294))), ([(.var (nat_lit 1)), (.var (nat_lit 1))], (Int.ofNat (nat_lit 3)))])
  (.leaf (.int .i64 [([], (Int.negSucc (nat_lit 0)))]))
  (.leaf (.int .i64 [([], (Int.negSucc (nat_lit 0)))])))
  (.test (.le [([], (Int.negSucc (nat_lit 18446744073709551614))), ([(.var (nat_lit 1)), (.var (nat_lit 1))], (Int.ofNat (nat_lit 3)))])
  (.leaf (.int .i64 [([], (Int.negSucc (nat_lit 0)))]))
  (.leaf (.int .i64 [([], (Int.negSucc (nat_lit 0)))]))))))
  (.test (.le [([], (Int.negSucc (nat_lit 79228162514264337593543950334))), ([(.var (nat_lit 0)), (.var (nat_lit 0))], (Int.ofNat (nat_lit 1)))])
  (.test (.le [([], (Int.negSucc (nat_lit 79228162514264337593543950334))), ([(.var (nat_lit 1)), (.var (nat_lit 1))], (Int.ofNat (nat_lit 1)))])
  (.test (.le [([], (Int.negSucc (nat_lit 18446744073709551614))), ([(.var (nat_lit 1)), (.var (nat_lit 1))], (Int.ofNat (nat_lit 1)))])
  (.test (.le [([], (Int.negSucc (nat_lit 18446744073709551614))), ([(.var (nat_lit 0)), (.var (nat_lit 0))], (Int.ofNat (nat_lit 1)))])
  (.leaf (.int .i64 []))
  (.leaf (.int .i64 [([], (Int.negSucc (nat_lit 0)))])))
  (.test (.le [([], (Int.negSucc (nat_lit 79228162514264337593543950334))), ([(.var (nat_lit 1)), (.var (nat_lit 1))], (Int.ofNat (nat_lit 3)))])
  (.test (.le [([], (Int.negSucc (nat_lit 18446744073709551614))), ([(.var (nat_lit 0)), (.var (nat_lit 0))], (Int.ofNat (nat_lit 1)))])
  (.leaf (.int .i64 []))
  (.test (.le [([], (Int.ofNat (nat_lit 1))), ([(.var (nat_lit 0)), (.var (nat_lit 0))], (Int.ofNat (nat_lit 1))), ([(.var (nat_lit 1)), (.var (nat_lit 1))], (Int.negSucc (nat_lit 2)))])
  (.leaf (.int .i64 [([], (Int.ofNat (nat_lit 1)))]))
  (.test (.le [([], (Int.ofNat (nat_lit 1))), ([(.var (nat_lit 0)), (.var (nat_lit 0))], (Int.negSucc (nat_lit 0))), ([(.var (nat_lit 1)), (.var (nat_lit 1))], (Int.ofNat (nat_lit 3)))])
  (.leaf (.int .i64 [([], (Int.negSucc (nat_lit 0)))]))
  (.leaf (.int .i64 [])))))
  (.test (.le [([], (Int.negSucc (nat_lit 18446744073709551614))), ([(.var (nat_lit 0)), (.var (nat_lit 0))], (Int.ofNat (nat_lit 1)))])
  (.leaf (.int .i64 []))
  (.leaf (.int .i64 [([], (Int.ofNat (nat_lit 1)))])))))
  (.test (.le [([], (Int.negSucc (nat_lit 18446744073709551614))), ([(.var (nat_lit 0)), (.var (nat_lit 0))], (Int.ofNat (nat_lit 1)))])
  (.leaf (.int .i64 []))
  (.leaf (.int .i64 [([], (Int.ofNat (nat_lit 1)))]))))
  (.test (.le [([], (Int.negSucc (nat_lit 79228162514264337593543950334))), ([(.var (nat_lit 1)), (.var (nat_lit 1))], (Int.ofNat (nat_lit 1)))])
  (.test (.le [([], (Int.negSucc (nat_lit 18446744073709551614))), ([(.var (nat_lit 1)), (.var (nat_lit 1))], (Int.ofNat (nat_lit 1)))])
  (.leaf (.int .i64 [([], (Int.negSucc (nat_lit 0)))]))
  (.test (.le [([], (Int.negSucc (nat_lit 79228162514264337593543950334))), ([(.var (nat_lit 1)), (.var (nat_lit 1))], (Int.ofNat (nat_lit 3)))])
  (.leaf (.int .i64 [([], (Int.negSucc (nat_lit 0)))]))
  (.test (.le [([], (Int.ofNat (nat_lit 1))), ([(.var (nat_lit 0)), (.var (nat_lit 0))], (Int.ofNat (nat_lit 1))), ([(.var (nat_lit 1)), (.var (nat_lit 1))], (Int.negSucc (nat_lit 2)))])
  (.leaf (.int .i64 [([], (Int.ofNat (nat_lit 1)))]))
  (.test (.le [([], (Int.ofNat (nat_lit 1))), ([(.var (nat_lit 0)), (.var (nat_lit 0))], (Int.negSucc (nat_lit 0))), ([(.var (nat_lit 1)), (.var (nat_lit 1))], (Int.ofNat (nat_lit 3)))])
  (.leaf (.int .i64 [([], (Int.negSucc (nat_lit 0)))]))
  (.leaf (.int .i64 []))))))
  (.test (.le [([], (Int.ofNat (nat_lit 1))), ([(.var (nat_lit 0)), (.var (nat_lit 0))], (Int.ofNat (nat_lit 1))), ([(.var (nat_lit 1)), (.var (nat_lit 1))], (Int.negSucc (nat_lit 2)))])
  (.leaf (.int .i64 [([], (Int.ofNat (nat_lit 1)))]))
  (.test (.le [([], (Int.ofNat (nat_lit 1))), ([(.var (nat_lit 0)), (.var (nat_lit 0))], (Int.negSucc (nat_lit 0))), ([(.var (nat_lit 1)), (.var (nat_lit 1))], (Int.ofNat (nat_lit 3)))])
  (.leaf (.int .i64 [([], (Int.negSucc (nat_lit 0)))]))
  (.leaf (.int .i64 [])))))))))
  (.test (.le [([], (Int.negSucc (nat_lit 4294967294))), ([(.var (nat_lit 0))], (Int.ofNat (nat_lit 1)))])
  (.test (.eq [([(.var (nat_lit 0))], (Int.ofNat (nat_lit 1)))])
  (.test (.le [([], (Int.ofNat (nat_lit 1))), ([(.var (nat_lit 1))], (Int.ofNat (nat_lit 1)))])
  (.test (.le [([], (Int.negSucc (nat_lit 4294967294))), ([(.var (nat_lit 1))], (Int.negSucc (nat_lit 0)))])
  (.leaf (.int .i64 [([], (Int.negSucc (nat_lit 0)))]))
  (.leaf (.int .i64 [([], (Int.negSucc (nat_lit 0)))])))
  (.test (.le [([], (Int.negSucc (nat_lit 4294967294))), ([(.var (nat_lit 1))], (Int.ofNat (nat_lit 1)))])
  (.test (.eq [([(.var (nat_lit 1))], (Int.ofNat (nat_lit 1)))])
  (.leaf (.int .i64 []))
  (.leaf (.int .i64 [([], (Int.ofNat (nat_lit 1)))])))
  (.leaf (.int .i64 [([], (Int.ofNat (nat_lit 1)))]))))
  (.test (.le [([], (Int.ofNat (nat_lit 1))), ([(.var (nat_lit 1))], (Int.ofNat (nat_lit 1)))])
  (.test (.le [([], (Int.negSucc (nat_lit 4294967294))), ([(.var (nat_lit 1))], (Int.negSucc (nat_lit 0)))])
  (.test (.le [([], (Int.negSucc (nat_lit 4294967294))), ([(.var (nat_lit 0)), (.var (nat_lit 0))], (Int.ofNat (nat_lit 1)))])
  (.test (.le [([], (Int.negSucc (nat_lit 4294967294))), ([(.var (nat_lit 1)), (.var (nat_lit 1))], (Int.ofNat (nat_lit 1)))])
  (.test (.le [([], (Int.negSucc (nat_lit 4294967294))), ([(.var (nat_lit 1)), (.var (nat_lit 1))], (Int.ofNat (nat_lit 3)))])
  (.test (.le [([], (Int.ofNat (nat_lit 1))), ([(.var (nat_lit 0)), (.var (nat_lit 0))], (Int.ofNat (nat_lit 1))), ([(.var (nat_lit 1)), (.var (nat_lit 1))], (Int.negSucc (nat_lit 2)))])
  (.leaf (.int .i64 [([], (Int.negSucc (nat_lit 0)))]))
  (.test (.le [([], (Int.ofNat (nat_lit 1))), ([(.var (nat_lit 0)), (.var (nat_lit 0))], (Int.negSucc (nat_lit 0))), ([(.var (nat_lit 1)), (.var (nat_lit 1))], (Int.ofNat (nat_lit 3)))])
  (.leaf (.int .i64 [([], (Int.ofNat (nat_lit 1)))]))
  (.leaf (.int .i64 []))))
  (.leaf (.int .i64 [([], (Int.negSucc (nat_lit 0)))])))
  (.test (.le [([], (Int.negSucc (nat_lit 18446744073709551614))), ([(.var (nat_lit 1)), (.var (nat_lit 1))], (Int.ofNat (nat_lit 3)))])
  (.leaf (.int .i64 [([], (Int.negSucc (nat_lit 0)))]))
  (.leaf (.int .i64 [([], (Int.negSucc (nat_lit 0)))]))))
  (.test (.le [([], (Int.negSucc (nat_lit 4294967294))), ([(.var (nat_lit 1)), (.var (nat_lit 1))], (Int.ofNat (nat_lit 1)))])
  (.test (.le [([], (Int.negSucc (nat_lit 4294967294))), ([(.var (nat_lit 1)), (.var (nat_lit 1))], (Int.ofNat (nat_lit 3)))])
  (.leaf (.int .i64 [([], (Int.ofNat (nat_lit 1)))]))
  (.test (.le [([], (Int.ofNat (nat_lit 1))), ([(.var (nat_lit 0)), (.var (nat_lit 0))], (Int.ofNat (nat_lit 1))), ([(.var (nat_lit 1)), (.var (nat_lit 1))], (Int.negSucc (nat_lit 2)))])
  (.leaf (.int .i64 [([], (Int.negSucc (nat_lit 0)))]))
  (.test (.le [([], (Int.ofNat (nat_lit 1))), ([(.var (nat_lit 0)), (.var (nat_lit 0))], (Int.negSucc (nat_lit 0))), ([(.var (nat_lit 1)), (.var (nat_lit 1))], (Int.ofNat (nat_lit 3)))])
  (.leaf (.int .i64 [([], (Int.ofNat (nat_lit 1)))]))
  (.leaf (.int .i64 [])))))
  (.test (.le [([], (Int.negSucc (nat_lit 18446744073709551614))), ([(.var (nat_lit 1)), (.var (nat_lit 1))], (Int.ofNat (nat_lit 3)))])
  (.test (.le [([], (Int.ofNat (nat_lit 1))), ([(.var (nat_lit 0)), (.var (nat_lit 0))], (Int.ofNat (nat_lit 1))), ([(.var (nat_lit 1)), (.var (nat_lit 1))], (Int.negSucc (nat_lit 2)))])
  (.leaf (.int .i64 [([], (Int.negSucc (nat_lit 0)))]))
  (.test (.le [([], (Int.ofNat (nat_lit 1))), ([(.var (nat_lit 0)), (.var (nat_lit 0))], (Int.negSucc (nat_lit 0))), ([(.var (nat_lit 1)), (.var (nat_lit 1))], (Int.ofNat (nat_lit 3)))])
  (.leaf (.int .i64 [([], (Int.ofNat (nat_lit 1)))]))
  (.leaf (.int .i64 []))))
  (.leaf (.int .i64 [([], (Int.negSucc (nat_lit 0)))])))))
  (.test (.le [([], (Int.negSucc (nat_lit 4294967294))), ([(.var (nat_lit 0)), (.var (nat_lit 0))], (Int.ofNat (nat_lit 1)))])
  (.test (.le [([], (Int.negSucc (nat_lit 79228162514264337593543950334))), ([(.var (nat_lit 1)), (.var (nat_lit 1))], (Int.ofNat (nat_lit 1)))])
  (.test (.le [([], (Int.negSucc (nat_lit 18446744073709551614))), ([(.var (nat_lit 1)), (.var (nat_lit 1))], (Int.ofNat (nat_lit 1)))])
  (.leaf (.int .i64 [([], (Int.ofNat (nat_lit 1)))]))
  (.test (.le [([], (Int.negSucc (nat_lit 79228162514264337593543950334))), ([(.var (nat_lit 1)), (.var (nat_lit 1))], (Int.ofNat (nat_lit 3)))])
  (.leaf (.int .i64 [([], (Int.negSucc (nat_lit 0)))]))
  (.leaf (.int .i64 [([], (Int.negSucc (nat_lit 0)))]))))
  (.leaf (.int .i64 [([], (Int.negSucc (nat_lit 0)))])))
  (.test (.le [([], (Int.negSucc (nat_lit 79228162514264337593543950334))), ([(.var (nat_lit 1)), (.var (nat_lit 1))], (Int.ofNat (nat_lit 1)))])
  (.test (.le [([], (Int.negSucc (nat_lit 18446744073709551614))), ([(.var (nat_lit 1)), (.var (nat_lit 1))], (Int.ofNat (nat_lit 1)))])
  (.leaf (.int .i64 [([], (Int.ofNat (nat_lit 1)))]))
  (.test (.le [([], (Int.negSucc (nat_lit 79228162514264337593543950334))), ([(.var (nat_lit 1)), (.var (nat_lit 1))], (Int.ofNat (nat_lit 3)))])
  (.leaf (.int .i64 [([], (Int.negSucc (nat_lit 0)))]))
  (.leaf (.int .i64 [([], (Int.negSucc (nat_lit 0)))]))))
  (.leaf (.int .i64 [([], (Int.negSucc (nat_lit 0)))])))))
  (.test (.le [([], (Int.negSucc (nat_lit 4294967294))), ([(.var (nat_lit 1))], (Int.ofNat (nat_lit 1)))])
  (.test (.eq [([(.var (nat_lit 1))], (Int.ofNat (nat_lit 1)))])
  (.leaf (.int .i64 [([], (Int.ofNat (nat_lit 1)))]))
  (.leaf (.int .i64 [([], (Int.ofNat (nat_lit 1)))])))
  (.leaf (.int .i64 [([], (Int.ofNat (nat_lit 1)))])))))
  (.test (.le [([], (Int.ofNat (nat_lit 1))), ([(.var (nat_lit 1))], (Int.ofNat (nat_lit 1)))])
  (.test (.le [([], (Int.negSucc (nat_lit 4294967294))), ([(.var (nat_lit 1))], (Int.negSucc (nat_lit 0)))])
  (.test (.le [([], (Int.negSucc (nat_lit 79228162514264337593543950334))), ([(.var (nat_lit 0)), (.var (nat_lit 0))], (Int.ofNat (nat_lit 1)))])
  (.test (.le [([], (Int.negSucc (nat_lit 4294967294))), ([(.var (nat_lit 1)), (.var (nat_lit 1))], (Int.ofNat (nat_lit 1)))])
  (.test (.le [([], (Int.negSucc (nat_lit 4294967294))), ([(.var (nat_lit 1)), (.var (nat_lit 1))], (Int.ofNat (nat_lit 3)))])
  (.test (.le [([], (Int.negSucc (nat_lit 18446744073709551614))), ([(.var (nat_lit 0)), (.var (nat_lit 0))], (Int.ofNat (nat_lit 1)))])
  (.leaf (.int .i64 []))
  (.leaf (.int .i64 [([], (Int.ofNat (nat_lit 1)))])))
  (.test (.le [([], (Int.negSucc (nat_lit 18446744073709551614))), ([(.var (nat_lit 0)), (.var (nat_lit 0))], (Int.ofNat (nat_lit 1)))])
  (.leaf (.int .i64 []))
  (.leaf (.int .i64 [([], (Int.ofNat (nat_lit 1)))]))))
  (.test (.le [([], (Int.negSucc (nat_lit 18446744073709551614))), ([(.var (nat_lit 1)), (.var (nat_lit 1))], (Int.ofNat (nat_lit 3)))])
  (.test (.le [([], (Int.negSucc (nat_lit 18446744073709551614))), ([(.var (nat_lit 0)), (.var (nat_lit 0))], (Int.ofNat (nat_lit 1)))])
  (.leaf (.int .i64 []))
  (.leaf (.int .i64 [([], (Int.ofNat (nat_lit 1)))])))
  (.test (.le [([], (Int.negSucc (nat_lit 18446744073709551614))), ([(.var (nat_lit 0)), (.var (nat_lit 0))], (Int.ofNat (nat_lit 1)))])
  (.leaf (.int .i64 []))
  (.test (.le [([], (Int.ofNat (nat_lit 1))), ([(.var (nat_lit 0)), (.var (nat_lit 0))], (Int.ofNat (nat_lit 1))), ([(.var (nat_lit 1)), (.var (nat_lit 1))], (Int.negSucc (nat_lit 2)))])
  (.leaf (.int .i64 [([], (Int.negSucc (nat_lit 0)))]))
  (.test (.le [([], (Int.ofNat (nat_lit 1))), ([(.var (nat_lit 0)), (.var (nat_lit 0))], (Int.negSucc (nat_lit 0))), ([(.var (nat_lit 1)), (.var (nat_lit 1))], (Int.ofNat (nat_lit 3)))])
  (.leaf (.int .i64 [([], (Int.ofNat (nat_lit 1)))]))
  (.leaf (.int .i64 [])))))))
  (.test (.le [([], (Int.negSucc (nat_lit 4294967294))), ([(.var (nat_lit 1)), (.var (nat_lit 1))], (Int.ofNat (nat_lit 1)))])
  (.test (.le [([], (Int.negSucc (nat_lit 4294967294))), ([(.var (nat_lit 1)), (.var (nat_lit 1))], (Int.ofNat (nat_lit 3)))])
  (.leaf (.int .i64 [([], (Int.ofNat (nat_lit 1)))]))
  (.leaf (.int .i64 [([], (Int.ofNat (nat_lit 1)))])))
  (.test (.le [([], (Int.negSucc (nat_lit 18446744073709551614))), ([(.var (nat_lit 1)), (.var (nat_lit 1))], (Int.ofNat (nat_lit 3)))])
  (.leaf (.int .i64 [([], (Int.ofNat (nat_lit 1)))]))
  (.leaf (.int .i64 [([], (Int.ofNat (nat_lit 1)))])))))
  (.test (.le [([], (Int.negSucc (nat_lit 79228162514264337593543950334))), ([(.var (nat_lit 0)), (.var (nat_lit 0))], (Int.ofNat (nat_lit 1)))])
  (.test (.le [([], (Int.negSucc (nat_lit 79228162514264337593543950334))), ([(.var (nat_lit 1)), (.var (nat_lit 1))], (Int.ofNat (nat_lit 1)))])
  (.test (.le [([], (Int.negSucc (nat_lit 18446744073709551614))), ([(.var (nat_lit 1)), (.var (nat_lit 1))], (Int.ofNat (nat_lit 1)))])
  (.test (.le [([], (Int.negSucc (nat_lit 18446744073709551614))), ([(.var (nat_lit 0)), (.var (nat_lit 0))], (Int.ofNat (nat_lit 1)))])
  (.leaf (.int .i64 []))
  (.leaf (.int .i64 [([], (Int.ofNat (nat_lit 1)))])))
  (.test (.le [([], (Int.negSucc (nat_lit 79228162514264337593543950334))), ([(.var (nat_lit 1)), (.var (nat_lit 1))], (Int.ofNat (nat_lit 3)))])
  (.test (.le [([], (Int.negSucc (nat_lit 18446744073709551614))), ([(.var (nat_lit 0)), (.var (nat_lit 0))], (Int.ofNat (nat_lit 1)))])
  (.leaf (.int .i64 []))
  (.test (.le [([], (Int.ofNat (nat_lit 1))), ([(.var (nat_lit 0)), (.var (nat_lit 0))], (Int.ofNat (nat_lit 1))), ([(.var (nat_lit 1)), (.var (nat_lit 1))], (Int.negSucc (nat_lit 2)))])
  (.leaf (.int .i64 [([], (Int.negSucc (nat_lit 0)))]))
  (.test (.le [([], (Int.ofNat (nat_lit 1))), ([(.var (nat_lit 0)), (.var (nat_lit 0))], (Int.negSucc (nat_lit 0))), ([(.var (nat_lit 1)), (.var (nat_lit 1))], (Int.ofNat (nat_lit 3)))])
  (.leaf (.int .i64 [([], (Int.ofNat (nat_lit 1)))]))
  (.leaf (.int .i64 [])))))
  (.test (.le [([], (Int.negSucc (nat_lit 18446744073709551614))), ([(.var (nat_lit 0)), (.var (nat_lit 0))], (Int.ofNat (nat_lit 1)))])
  (.leaf (.int .i64 []))
  (.leaf (.int .i64 [([], (Int.negSucc (nat_lit 0)))])))))
  (.test (.le [([], (Int.negSucc (nat_lit 18446744073709551614))), ([(.var (nat_lit 0)), (.var (nat_lit 0))], (Int.ofNat (nat_lit 1)))])
  (.leaf (.int .i64 []))
  (.leaf (.int .i64 [([], (Int.negSucc (nat_lit 0)))]))))
  (.test (.le [([], (Int.negSucc (nat_lit 79228162514264337593543950334))), ([(.var (nat_lit 1)), (.var (nat_lit 1))], (Int.ofNat (nat_lit 1)))])
  (.test (.le [([], (Int.negSucc (nat_lit 18446744073709551614))), ([(.var (nat_lit 1)), (.var (nat_lit 1))], (Int.ofNat (nat_lit 1)))])
  (.leaf (.int .i64 [([], (Int.ofNat (nat_lit 1)))]))
  (.test (.le [([], (Int.negSucc (nat_lit 79228162514264337593543950334))), ([(.var (nat_lit 1)), (.var (nat_lit 1))], (Int.ofNat (nat_lit 3)))])
  (.leaf (.int .i64 [([], (Int.ofNat (nat_lit 1)))]))
  (.test (.le [([], (Int.ofNat (nat_lit 1))), ([(.var (nat_lit 0)), (.var (nat_lit 0))], (Int.ofNat (nat_lit 1))), ([(.var (nat_lit 1)), (.var (nat_lit 1))], (Int.negSucc (nat_lit 2)))])
  (.leaf (.int .i64 [([], (Int.negSucc (nat_lit 0)))]))
  (.test (.le [([], (Int.ofNat (nat_lit 1))), ([(.var (nat_lit 0)), (.var (nat_lit 0))], (Int.negSucc (nat_lit 0))), ([(.var (nat_lit 1)), (.var (nat_lit 1))], (Int.ofNat (nat_lit 3)))])
  (.leaf (.int .i64 [([], (Int.ofNat (nat_lit 1)))]))
  (.leaf (.int .i64 []))))))
  (.test (.le [([], (Int.ofNat (nat_lit 1))), ([(.var (nat_lit 0)), (.var (nat_lit 0))], (Int.ofNat (nat_lit 1))), ([(.var (nat_lit 1)), (.var (nat_lit 1))], (Int.negSucc (nat_lit 2)))])
  (.leaf (.int .i64 [([], (Int.negSucc (nat_lit 0)))]))
  (.test (.le [([], (Int.ofNat (nat_lit 1))), ([(.var (nat_lit 0)), (.var (nat_lit 0))], (Int.negSucc (nat_lit 0))), ([(.var (nat_lit 1)), (.var (nat_lit 1))], (Int.ofNat (nat_lit 3)))])
  (.leaf (.int .i64 [([], (Int.ofNat (nat_lit 1)))]))
  (.leaf (.int .i64 [])))))))
  (.test (.le [([], (Int.negSucc (nat_lit 4294967294))), ([(.var (nat_lit 1))], (Int.ofNat (nat_lit 1)))])
  (.test (.eq [([(.var (nat_lit 1))], (Int.ofNat (nat_lit 1)))])
  (.leaf (.int .i64 [([], (Int.ofNat (nat_lit 1)))]))
  (.leaf (.int .i64 [([], (Int.ofNat (nat_lit 1)))])))
  (.leaf (.int .i64 [([], (Int.ofNat (nat_lit 1)))])))))), [], []⟩
def sgnrS : Summ := ⟨surdA, [ivT .i64, ivT .i64], .leaf (.int .i64 [([.app 0 (.var 0) (.var 1) (.lit 0)], 1)]), [], []⟩
theorem sq_words (x : Int) (h0 : -9223372036854775808 ≤ x) (h1 : x ≤ 9223372036854775807) :
    (x ≤ -4294967296 → 18446744073709551616 ≤ x * x) ∧ (4294967296 ≤ x → 18446744073709551616 ≤ x * x)
    ∧ (-4294967295 ≤ x → x ≤ 4294967295 → x * x ≤ 18446744065119617025) ∧ x * x ≤ 85070591730234615865843651857942052864 := by
  refine ⟨fun h => ?_, fun h => ?_, fun h h' => ?_, ?_⟩
  · have := Int.mul_le_mul (show 4294967296 ≤ -x by omega) (show 4294967296 ≤ -x by omega) (by decide) (by omega)
    rw [Int.neg_mul_neg] at this; omega
  · have := Int.mul_le_mul h h (by decide) (by omega)
    omega
  · have : 0 ≤ (4294967295 - x) * (4294967295 + x) := Int.mul_nonneg (by omega) (by omega)
    grind
  · have : 0 ≤ (9223372036854775808 - x) * (9223372036854775808 + x) := Int.mul_nonneg (by omega) (by omega)
    grind
theorem sq_five (x : Int) (h0 : -9223372036854775808 ≤ x) (h1 : x ≤ 9223372036854775807) :
    (x ≤ -4294967296 ∧ x * x.natAbs = -(x * x) ∧ 18446744073709551616 ≤ x * x ∧ x * x ≤ 85070591730234615865843651857942052864) ∨ (-4294967295 ≤ x ∧ x ≤ -1 ∧ x * x.natAbs = -(x * x) ∧ 1 ≤ x * x ∧ x * x ≤ 18446744065119617025) ∨ (x = 0 ∧ x * x.natAbs = 0 ∧ x * x = 0) ∨ (1 ≤ x ∧ x ≤ 4294967295 ∧ x * x.natAbs = x * x ∧ 1 ≤ x * x ∧ x * x ≤ 18446744065119617025) ∨ (4294967296 ≤ x ∧ x * x.natAbs = x * x ∧ 18446744073709551616 ≤ x * x ∧ x * x ≤ 85070591730234615865843651857942052864) := by
  have w := sq_words x h0 h1
  have a := sq_abs x
  generalize x * x.natAbs = b at *
  generalize x * x = p at *
  omega
theorem sign_three (n : Int) : (0 < n ∧ n.sign = 1) ∨ (n < 0 ∧ n.sign = -1) ∨ (n = 0 ∧ n.sign = 0) := by
  have := sign_cases n
  omega
theorem sgnr_0 (D : Den) (hx : (D.env.v 0 ≤ -4294967296 ∧ D.env.v 0 * (D.env.v 0).natAbs = -(D.env.v 0 * D.env.v 0) ∧ 18446744073709551616 ≤ D.env.v 0 * D.env.v 0 ∧ D.env.v 0 * D.env.v 0 ≤ 85070591730234615865843651857942052864)) (hy : (D.env.v 1 ≤ -4294967296 ∧ D.env.v 1 * (D.env.v 1).natAbs = -(D.env.v 1 * D.env.v 1) ∧ 18446744073709551616 ≤ D.env.v 1 * D.env.v 1 ∧ D.env.v 1 * D.env.v 1 ≤ 85070591730234615865843651857942052864) ∨ (-4294967295 ≤ D.env.v 1 ∧ D.env.v 1 ≤ -1 ∧ D.env.v 1 * (D.env.v 1).natAbs = -(D.env.v 1 * D.env.v 1) ∧ 1 ≤ D.env.v 1 * D.env.v 1 ∧ D.env.v 1 * D.env.v 1 ≤ 18446744065119617025) ∨ (D.env.v 1 = 0 ∧ D.env.v 1 * (D.env.v 1).natAbs = 0 ∧ D.env.v 1 * D.env.v 1 = 0) ∨ (1 ≤ D.env.v 1 ∧ D.env.v 1 ≤ 4294967295 ∧ D.env.v 1 * (D.env.v 1).natAbs = D.env.v 1 * D.env.v 1 ∧ 1 ≤ D.env.v 1 * D.env.v 1 ∧ D.env.v 1 * D.env.v 1 ≤ 18446744065119617025) ∨ (4294967296 ≤ D.env.v 1 ∧ D.env.v 1 * (D.env.v 1).natAbs = D.env.v 1 * D.env.v 1 ∧ 18446744073709551616 ≤ D.env.v 1 * D.env.v 1 ∧ D.env.v 1 * D.env.v 1 ≤ 85070591730234615865843651857942052864)) : sgnrE.tree.isv D .i64 (ssign (D.env.v 0) (D.env.v 1)) := by
  simp only [sgnrE, isv_le, isv_eq, isv_one, Poly.ev, Mono.ev, E.ev, ssign, ofNat_lit, Int.mul_one, Int.negSucc_eq]
  generalize D.env.v 0 * (D.env.v 0).natAbs = a at *
  generalize D.env.v 1 * (D.env.v 1).natAbs = b at *
  generalize D.env.v 0 * D.env.v 0 = p at *
  generalize D.env.v 1 * D.env.v 1 = q at *
  have hc := sign_three (a + 3 * b)
  generalize (a + 3 * b).sign = s at *
  generalize D.env.v 0 = x at *
  generalize D.env.v 1 = y at *
  clear D
  rcases hy with hy | hy | hy | hy | hy
  all_goals repeat' first | refine And.intro ?_ ?_ | (intro _; try (exfalso; omega; done))
  all_goals omega
theorem sgnr_1 (D : Den) (hx : (-4294967295 ≤ D.env.v 0 ∧ D.env.v 0 ≤ -1 ∧ D.env.v 0 * (D.env.v 0).natAbs = -(D.env.v 0 * D.env.v 0) ∧ 1 ≤ D.env.v 0 * D.env.v 0 ∧ D.env.v 0 * D.env.v 0 ≤ 18446744065119617025)) (hy : (D.env.v 1 ≤ -4294967296 ∧ D.env.v 1 * (D.env.v 1).natAbs = -(D.env.v 1 * D.env.v 1) ∧ 18446744073709551616 ≤ D.env.v 1 * D.env.v 1 ∧ D.env.v 1 * D.env.v 1 ≤ 85070591730234615865843651857942052864) ∨ (-4294967295 ≤ D.env.v 1 ∧ D.env.v 1 ≤ -1 ∧ D.env.v 1 * (D.env.v 1).natAbs = -(D.env.v 1 * D.env.v 1) ∧ 1 ≤ D.env.v 1 * D.env.v 1 ∧ D.env.v 1 * D.env.v 1 ≤ 18446744065119617025) ∨ (D.env.v 1 = 0 ∧ D.env.v 1 * (D.env.v 1).natAbs = 0 ∧ D.env.v 1 * D.env.v 1 = 0) ∨ (1 ≤ D.env.v 1 ∧ D.env.v 1 ≤ 4294967295 ∧ D.env.v 1 * (D.env.v 1).natAbs = D.env.v 1 * D.env.v 1 ∧ 1 ≤ D.env.v 1 * D.env.v 1 ∧ D.env.v 1 * D.env.v 1 ≤ 18446744065119617025) ∨ (4294967296 ≤ D.env.v 1 ∧ D.env.v 1 * (D.env.v 1).natAbs = D.env.v 1 * D.env.v 1 ∧ 18446744073709551616 ≤ D.env.v 1 * D.env.v 1 ∧ D.env.v 1 * D.env.v 1 ≤ 85070591730234615865843651857942052864)) : sgnrE.tree.isv D .i64 (ssign (D.env.v 0) (D.env.v 1)) := by
  simp only [sgnrE, isv_le, isv_eq, isv_one, Poly.ev, Mono.ev, E.ev, ssign, ofNat_lit, Int.mul_one, Int.negSucc_eq]
  generalize D.env.v 0 * (D.env.v 0).natAbs = a at *
  generalize D.env.v 1 * (D.env.v 1).natAbs = b at *
  generalize D.env.v 0 * D.env.v 0 = p at *
  generalize D.env.v 1 * D.env.v 1 = q at *
  have hc := sign_three (a + 3 * b)
  generalize (a + 3 * b).sign = s at *
  generalize D.env.v 0 = x at *
  generalize D.env.v 1 = y at *
  clear D
  rcases hy with hy | hy | hy | hy | hy
  all_goals repeat' first | refine And.intro ?_ ?_ | (intro _; try (exfalso; omega; done))
  all_goals omega
theorem sgnr_2 (D : Den) (hx : (D.env.v 0 = 0 ∧ D.env.v 0 * (D.env.v 0).natAbs = 0 ∧ D.env.v 0 * D.env.v 0 = 0)) (hy : (D.env.v 1 ≤ -4294967296 ∧ D.env.v 1 * (D.env.v 1).natAbs = -(D.env.v 1 * D.env.v 1) ∧ 18446744073709551616 ≤ D.env.v 1 * D.env.v 1 ∧ D.env.v 1 * D.env.v 1 ≤ 85070591730234615865843651857942052864) ∨ (-4294967295 ≤ D.env.v 1 ∧ D.env.v 1 ≤ -1 ∧ D.env.v 1 * (D.env.v 1).natAbs = -(D.env.v 1 * D.env.v 1) ∧ 1 ≤ D.env.v 1 * D.env.v 1 ∧ D.env.v 1 * D.env.v 1 ≤ 18446744065119617025) ∨ (D.env.v 1 = 0 ∧ D.env.v 1 * (D.env.v 1).natAbs = 0 ∧ D.env.v 1 * D.env.v 1 = 0) ∨ (1 ≤ D.env.v 1 ∧ D.env.v 1 ≤ 4294967295 ∧ D.env.v 1 * (D.env.v 1).natAbs = D.env.v 1 * D.env.v 1 ∧ 1 ≤ D.env.v 1 * D.env.v 1 ∧ D.env.v 1 * D.env.v 1 ≤ 18446744065119617025) ∨ (4294967296 ≤ D.env.v 1 ∧ D.env.v 1 * (D.env.v 1).natAbs = D.env.v 1 * D.env.v 1 ∧ 18446744073709551616 ≤ D.env.v 1 * D.env.v 1 ∧ D.env.v 1 * D.env.v 1 ≤ 85070591730234615865843651857942052864)) : sgnrE.tree.isv D .i64 (ssign (D.env.v 0) (D.env.v 1)) := by
  simp only [sgnrE, isv_le, isv_eq, isv_one, Poly.ev, Mono.ev, E.ev, ssign, ofNat_lit, Int.mul_one, Int.negSucc_eq]
  generalize D.env.v 0 * (D.env.v 0).natAbs = a at *
  generalize D.env.v 1 * (D.env.v 1).natAbs = b at *
  generalize D.env.v 0 * D.env.v 0 = p at *
  generalize D.env.v 1 * D.env.v 1 = q at *
  have hc := sign_three (a + 3 * b)
  generalize (a + 3 * b).sign = s at *
  generalize D.env.v 0 = x at *
  generalize D.env.v 1 = y at *
  clear D
  rcases hy with hy | hy | hy | hy | hy
  all_goals repeat' first | refine And.intro ?_ ?_ | (intro _; try (exfalso; omega; done))
  all_goals omega
theorem sgnr_3 (D : Den) (hx : (1 ≤ D.env.v 0 ∧ D.env.v 0 ≤ 4294967295 ∧ D.env.v 0 * (D.env.v 0).natAbs = D.env.v 0 * D.env.v 0 ∧ 1 ≤ D.env.v 0 * D.env.v 0 ∧ D.env.v 0 * D.env.v 0 ≤ 18446744065119617025)) (hy : (D.env.v 1 ≤ -4294967296 ∧ D.env.v 1 * (D.env.v 1).natAbs = -(D.env.v 1 * D.env.v 1) ∧ 18446744073709551616 ≤ D.env.v 1 * D.env.v 1 ∧ D.env.v 1 * D.env.v 1 ≤ 85070591730234615865843651857942052864) ∨ (-4294967295 ≤ D.env.v 1 ∧ D.env.v 1 ≤ -1 ∧ D.env.v 1 * (D.env.v 1).natAbs = -(D.env.v 1 * D.env.v 1) ∧ 1 ≤ D.env.v 1 * D.env.v 1 ∧ D.env.v 1 * D.env.v 1 ≤ 18446744065119617025) ∨ (D.env.v 1 = 0 ∧ D.env.v 1 * (D.env.v 1).natAbs = 0 ∧ D.env.v 1 * D.env.v 1 = 0) ∨ (1 ≤ D.env.v 1 ∧ D.env.v 1 ≤ 4294967295 ∧ D.env.v 1 * (D.env.v 1).natAbs = D.env.v 1 * D.env.v 1 ∧ 1 ≤ D.env.v 1 * D.env.v 1 ∧ D.env.v 1 * D.env.v 1 ≤ 18446744065119617025) ∨ (4294967296 ≤ D.env.v 1 ∧ D.env.v 1 * (D.env.v 1).natAbs = D.env.v 1 * D.env.v 1 ∧ 18446744073709551616 ≤ D.env.v 1 * D.env.v 1 ∧ D.env.v 1 * D.env.v 1 ≤ 85070591730234615865843651857942052864)) : sgnrE.tree.isv D .i64 (ssign (D.env.v 0) (D.env.v 1)) := by
  simp only [sgnrE, isv_le, isv_eq, isv_one, Poly.ev, Mono.ev, E.ev, ssign, ofNat_lit, Int.mul_one, Int.negSucc_eq]
  generalize D.env.v 0 * (D.env.v 0).natAbs = a at *
  generalize D.env.v 1 * (D.env.v 1).natAbs = b at *
  generalize D.env.v 0 * D.env.v 0 = p at *
  generalize D.env.v 1 * D.env.v 1 = q at *
  have hc := sign_three (a + 3 * b)
  generalize (a + 3 * b).sign = s at *
  generalize D.env.v 0 = x at *
  generalize D.env.v 1 = y at *
  clear D
  rcases hy with hy | hy | hy | hy | hy
  all_goals repeat' first | refine And.intro ?_ ?_ | (intro _; try (exfalso; omega; done))
  all_goals omega
theorem sgnr_4 (D : Den) (hx : (4294967296 ≤ D.env.v 0 ∧ D.env.v 0 * (D.env.v 0).natAbs = D.env.v 0 * D.env.v 0 ∧ 18446744073709551616 ≤ D.env.v 0 * D.env.v 0 ∧ D.env.v 0 * D.env.v 0 ≤ 85070591730234615865843651857942052864)) (hy : (D.env.v 1 ≤ -4294967296 ∧ D.env.v 1 * (D.env.v 1).natAbs = -(D.env.v 1 * D.env.v 1) ∧ 18446744073709551616 ≤ D.env.v 1 * D.env.v 1 ∧ D.env.v 1 * D.env.v 1 ≤ 85070591730234615865843651857942052864) ∨ (-4294967295 ≤ D.env.v 1 ∧ D.env.v 1 ≤ -1 ∧ D.env.v 1 * (D.env.v 1).natAbs = -(D.env.v 1 * D.env.v 1) ∧ 1 ≤ D.env.v 1 * D.env.v 1 ∧ D.env.v 1 * D.env.v 1 ≤ 18446744065119617025) ∨ (D.env.v 1 = 0 ∧ D.env.v 1 * (D.env.v 1).natAbs = 0 ∧ D.env.v 1 * D.env.v 1 = 0) ∨ (1 ≤ D.env.v 1 ∧ D.env.v 1 ≤ 4294967295 ∧ D.env.v 1 * (D.env.v 1).natAbs = D.env.v 1 * D.env.v 1 ∧ 1 ≤ D.env.v 1 * D.env.v 1 ∧ D.env.v 1 * D.env.v 1 ≤ 18446744065119617025) ∨ (4294967296 ≤ D.env.v 1 ∧ D.env.v 1 * (D.env.v 1).natAbs = D.env.v 1 * D.env.v 1 ∧ 18446744073709551616 ≤ D.env.v 1 * D.env.v 1 ∧ D.env.v 1 * D.env.v 1 ≤ 85070591730234615865843651857942052864)) : sgnrE.tree.isv D .i64 (ssign (D.env.v 0) (D.env.v 1)) := by
  simp only [sgnrE, isv_le, isv_eq, isv_one, Poly.ev, Mono.ev, E.ev, ssign, ofNat_lit, Int.mul_one, Int.negSucc_eq]
  generalize D.env.v 0 * (D.env.v 0).natAbs = a at *
  generalize D.env.v 1 * (D.env.v 1).natAbs = b at *
  generalize D.env.v 0 * D.env.v 0 = p at *
  generalize D.env.v 1 * D.env.v 1 = q at *
  have hc := sign_three (a + 3 * b)
  generalize (a + 3 * b).sign = s at *
  generalize D.env.v 0 = x at *
  generalize D.env.v 1 = y at *
  clear D
  rcases hy with hy | hy | hy | hy | hy
  all_goals repeat' first | refine And.intro ?_ ?_ | (intro _; try (exfalso; omega; done))
  all_goals omega
theorem sgnrS_exch : Exch sgnrE sgnrS := ⟨⟨rfl, rfl, rfl, rfl⟩, rfl, fun D hf hk => by
  have k0 := hk 0 _ rfl
  have k1 := hk 1 _ rfl
  have hx := sq_five (D.env.v 0) (show (-9223372036854775808 : Int) ≤ _ from k0.1) (show _ ≤ (9223372036854775807 : Int) from k0.2)
  have hy := sq_five (D.env.v 1) (show (-9223372036854775808 : Int) ≤ _ from k1.1) (show _ ≤ (9223372036854775807 : Int) from k1.2)
  refine (STree.isv_ev (k := .i64) (v := ssign (D.env.v 0) (D.env.v 1)) ?_).trans ?_
  · rcases hx with hx | hx | hx | hx | hx
    · exact sgnr_0 D hx hy
    · exact sgnr_1 D hx hy
    · exact sgnr_2 D hx hy
    · exact sgnr_3 D hx hy
    · exact sgnr_4 D hx hy
  · simp only [sgnrS, ev_one, Poly.ev, Mono.ev, E.ev, hf, stdF, Int.mul_one, Int.one_mul, Int.add_zero]⟩

/-! ### The product of two numbers by big integers (the reference's `scaled`) -/
theorem wrap64s (p : Int) : -9223372036854775808 ≤ p → p ≤ 9223372036854775807 → IntKind.i64.wrap (18446744073709551616 + p) = p := by
  intro h0 h1
  simp only [IntKind.wrap, IntKind.bits, IntKind.signed, Bool.true_and]
  split <;> rename_i h <;> simp at h <;> omega
theorem mul_words {x y : Int} (hx : 1 ≤ x) (hy : 1 ≤ y) : 1 ≤ x * y ∧ (4294967296 ≤ x → 4294967296 ≤ y → 18446744073709551616 ≤ x * y) := by
  constructor
  · have := Int.mul_pos (show 0 < x by omega) (show 0 < y by omega); omega
  · intro a b
    have := Int.mul_le_mul a b (by decide) (by omega)
    omega
theorem mul_six (x y : Int) : (x = 0 ∧ x * y = 0) ∨ (y = 0 ∧ x * y = 0)
    ∨ (1 ≤ x ∧ 1 ≤ y ∧ 1 ≤ x * y ∧ (4294967296 ≤ x → 4294967296 ≤ y → 18446744073709551616 ≤ x * y))
    ∨ (x ≤ -1 ∧ y ≤ -1 ∧ 1 ≤ x * y ∧ (x ≤ -4294967296 → y ≤ -4294967296 → 18446744073709551616 ≤ x * y))
    ∨ (1 ≤ x ∧ y ≤ -1 ∧ x * y ≤ -1 ∧ (4294967296 ≤ x → y ≤ -4294967296 → x * y ≤ -18446744073709551616))
    ∨ (x ≤ -1 ∧ 1 ≤ y ∧ x * y ≤ -1 ∧ (x ≤ -4294967296 → 4294967296 ≤ y → x * y ≤ -18446744073709551616)) := by
  by_cases hx : x = 0
  · exact .inl ⟨hx, by rw [hx, Int.zero_mul]⟩
  by_cases hy : y = 0
  · exact .inr (.inl ⟨hy, by rw [hy, Int.mul_zero]⟩)
  by_cases gx : 1 ≤ x
  · by_cases gy : 1 ≤ y
    · have := mul_words gx gy
      omega
    · have := mul_words gx (show 1 ≤ -y by omega)
      rw [Int.mul_neg] at this
      omega
  · by_cases gy : 1 ≤ y
    · have := mul_words (show 1 ≤ -x by omega) gy
      rw [Int.neg_mul] at this
      omega
    · have := mul_words (show 1 ≤ -x by omega) (show 1 ≤ -y by omega)
      rw [Int.neg_mul_neg] at this
      omega
theorem prodT_ev (D : Den) (L : Int) : (prodT L).ev D = some (.int .i64 (if D.env.v 0 * D.env.v 1 ≤ L then (if -L ≤ D.env.v 0 * D.env.v 1 then D.env.v 0 * D.env.v 1 else L + 1) else L + 1)) := by
  simp only [prodT, ev_le, ev_one, Poly.ev, Mono.ev, E.ev, Int.mul_one]
  generalize D.env.v 0 * D.env.v 1 = p
  repeat' split
  all_goals first | rfl | (congr 2 <;> omega) | (exfalso; omega)
def sc60S : Summ := ⟨ints2A, prod60K, prodT 1152921504606846976, [], []⟩
def sc60E : Summ := ⟨ints2A, prod60K, (.test (.le [([], (Int.ofNat (nat_lit 1))), ([(.var (nat_lit 0))], (Int.ofNat (nat_lit 1)))])
  (.test (.le [([], (Int.negSucc (nat_lit 4294967294))), ([(.var (nat_lit 0))], (Int.negSucc (nat_lit 0)))])
  (.test (.le [([], (Int.ofNat (nat_lit 1))), ([(.var (nat_lit 1))], (Int.ofNat (nat_lit 1)))])
  (.test (.le [([], (Int.negSucc (nat_lit 4294967294))), ([(.var (nat_lit 1))], (Int.negSucc (nat_lit 0)))])
  (.test (.le [([], (Int.negSucc (nat_lit 4294967294))), ([(.var (nat_lit 0)), (.var (nat_lit 1))], (Int.ofNat (nat_lit 1)))])
  (.leaf (.int .i64 [([(.var (nat_lit 0)), (.var (nat_lit 1))], (Int.ofNat (nat_lit 1)))]))
  (.test (.le [([], (Int.ofNat (nat_lit 9223372036854775808))), ([(.var (nat_lit 0)), (.var (nat_lit 1))], (Int.negSucc (nat_lit 0)))])
  (.leaf (.int .i64 [([], (Int.ofNat (nat_lit 1152921504606846977)))]))
  (.test (.le [([], (Int.negSucc (nat_lit 1152921504606846975))), ([(.var (nat_lit 0)), (.var (nat_lit 1))], (Int.ofNat (nat_lit 1)))])
  (.leaf (.int .i64 [([(.var (nat_lit 0)), (.var (nat_lit 1))], (Int.ofNat (nat_lit 1)))]))
  (.leaf (.int .i64 [([], (Int.ofNat (nat_lit 1152921504606846977)))])))))
  (.test (.le [([], (Int.negSucc (nat_lit 18446744073709551614))), ([(.var (nat_lit 0)), (.var (nat_lit 1))], (Int.ofNat (nat_lit 1)))])
  (.test (.le [([], (Int.ofNat (nat_lit 9223372036854775808))), ([(.var (nat_lit 0)), (.var (nat_lit 1))], (Int.negSucc (nat_lit 0)))])
  (.leaf (.int .i64 [([], (Int.ofNat (nat_lit 1152921504606846977)))]))
  (.test (.le [([], (Int.negSucc (nat_lit 1152921504606846975))), ([(.var (nat_lit 0)), (.var (nat_lit 1))], (Int.ofNat (nat_lit 1)))])
  (.leaf (.int .i64 [([(.var (nat_lit 0)), (.var (nat_lit 1))], (Int.ofNat (nat_lit 1)))]))
  (.leaf (.int .i64 [([], (Int.ofNat (nat_lit 1152921504606846977)))]))))
  (.leaf (.int .i64 [([], (Int.ofNat (nat_lit 1152921504606846977)))]))))
  (.test (.le [([], (Int.negSucc (nat_lit 4294967294))), ([(.var (nat_lit 1))], (Int.ofNat (nat_lit 1)))])
  (.test (.eq [([(.var (nat_lit 1))], (Int.ofNat (nat_lit 1)))])
  (.leaf (.int .i64 []))
  (.test (.le [([], (Int.negSucc (nat_lit 4294967294))), ([(.var (nat_lit 0)), (.var (nat_lit 1))], (Int.negSucc (nat_lit 0)))])
  (.test (.le [([], (Int.negSucc (nat_lit 1152921504606846975))), ([(.wrap .i64 (.add (.lit (Int.ofNat (nat_lit 18446744073709551616))) (.mul (.var (nat_lit 0)) (.var (nat_lit 1)))))], (Int.negSucc (nat_lit 0)))])
  (.test (.le [([], (Int.negSucc (nat_lit 1152921504606846975))), ([(.wrap .i64 (.add (.lit (Int.ofNat (nat_lit 18446744073709551616))) (.mul (.var (nat_lit 0)) (.var (nat_lit 1)))))], (Int.ofNat (nat_lit 1)))])
  (.leaf (.int .i64 [([(.wrap .i64 (.add (.lit (Int.ofNat (nat_lit 18446744073709551616))) (.mul (.var (nat_lit 0)) (.var (nat_lit 1)))))], (Int.ofNat (nat_lit 1)))]))
  (.leaf (.int .i64 [([], (Int.ofNat (nat_lit 1152921504606846977)))])))
  (.leaf (.int .i64 [([], (Int.ofNat (nat_lit 1152921504606846977)))])))
  (.test (.le [([], (Int.ofNat (nat_lit 9223372036854775809))), ([(.var (nat_lit 0)), (.var (nat_lit 1))], (Int.ofNat (nat_lit 1)))])
  (.leaf (.int .i64 [([], (Int.ofNat (nat_lit 1152921504606846977)))]))
  (.test (.le [([], (Int.negSucc (nat_lit 1152921504606846975))), ([(.wrap .i64 (.add (.lit (Int.ofNat (nat_lit 18446744073709551616))) (.mul (.var (nat_lit 0)) (.var (nat_lit 1)))))], (Int.negSucc (nat_lit 0)))])
  (.test (.le [([], (Int.negSucc (nat_lit 1152921504606846975))), ([(.wrap .i64 (.add (.lit (Int.ofNat (nat_lit 18446744073709551616))) (.mul (.var (nat_lit 0)) (.var (nat_lit 1)))))], (Int.ofNat (nat_lit 1)))])
  (.leaf (.int .i64 [([(.wrap .i64 (.add (.lit (Int.ofNat (nat_lit 18446744073709551616))) (.mul (.var (nat_lit 0)) (.var (nat_lit 1)))))], (Int.ofNat (nat_lit 1)))]))
  (.leaf (.int .i64 [([], (Int.ofNat (nat_lit 1152921504606846977)))])))
  (.leaf (.int .i64 [([], (Int.ofNat (nat_lit 1152921504606846977)))]))))))
  (.test (.le [([], (Int.negSucc (nat_lit 18446744073709551614))), ([(.var (nat_lit 0)), (.var (nat_lit 1))], (Int.negSucc (nat_lit 0)))])
  (.test (.le [([], (Int.ofNat (nat_lit 9223372036854775809))), ([(.var (nat_lit 0)), (.var (nat_lit 1))], (Int.ofNat (nat_lit 1)))])
  (.leaf (.int .i64 [([], (Int.ofNat (nat_lit 1152921504606846977)))]))
  (.test (.le [([], (Int.negSucc (nat_lit 1152921504606846975))), ([(.wrap .i64 (.add (.lit (Int.ofNat (nat_lit 18446744073709551616))) (.mul (.var (nat_lit 0)) (.var (nat_lit 1)))))], (Int.negSucc (nat_lit 0)))])
  (.test (.le [([], (Int.negSucc (nat_lit 1152921504606846975))), ([(.wrap .i64 (.add (.lit (Int.ofNat (nat_lit 18446744073709551616))) (.mul (.var (nat_lit 0)) (.var (nat_lit 1)))))], (Int.ofNat (nat_lit 1)))])
  (.leaf (.int .i64 [([(.wrap .i64 (.add (.lit (Int.ofNat (nat_lit 18446744073709551616))) (.mul (.var (nat_lit 0)) (.var (nat_lit 1)))))], (Int.ofNat (nat_lit 1)))]))
  (.leaf (.int .i64 [([], (Int.ofNat (nat_lit 1152921504606846977)))])))
  (.leaf (.int .i64 [([], (Int.ofNat (nat_lit 1152921504606846977)))]))))
  (.leaf (.int .i64 [([], (Int.ofNat (nat_lit 1152921504606846977)))])))))
  (.test (.le [([], (Int.ofNat (nat_lit 1))), ([(.var (nat_lit 1))], (Int.ofNat (nat_lit 1)))])
  (.test (.le [([], (Int.negSucc (nat_lit 4294967294))), ([(.var (nat_lit 1))], (Int.negSucc (nat_lit 0)))])
  (.test (.le [([], (Int.negSucc (nat_lit 18446744073709551614))), ([(.var (nat_lit 0)), (.var (nat_lit 1))], (Int.ofNat (nat_lit 1)))])
  (.test (.le [([], (Int.ofNat (nat_lit 9223372036854775808))), ([(.var (nat_lit 0)), (.var (nat_lit 1))], (Int.negSucc (nat_lit 0)))])
  (.leaf (.int .i64 [([], (Int.ofNat (nat_lit 1152921504606846977)))]))
  (.test (.le [([], (Int.negSucc (nat_lit 1152921504606846975))), ([(.var (nat_lit 0)), (.var (nat_lit 1))], (Int.ofNat (nat_lit 1)))])
  (.leaf (.int .i64 [([(.var (nat_lit 0)), (.var (nat_lit 1))], (Int.ofNat (nat_lit 1)))]))
  (.leaf (.int .i64 [([], (Int.ofNat (nat_lit 1152921504606846977)))]))))
  (.leaf (.int .i64 [([], (Int.ofNat (nat_lit 1152921504606846977)))])))
  (.test (.le [([], (Int.negSucc (nat_lit 79228162514264337593543950334))), ([(.var (nat_lit 0)), (.var (nat_lit 1))], (Int.ofNat (nat_lit 1)))])
  (.leaf (.int .i64 [([], (Int.ofNat (nat_lit 1152921504606846977)))]))
  (.leaf (.int .i64 [([], (Int.ofNat (nat_lit 1152921504606846977)))]))))
  (.test (.le [([], (Int.negSucc (nat_lit 4294967294))), ([(.var (nat_lit 1))], (Int.ofNat (nat_lit 1)))])
  (.test (.eq [([(.var (nat_lit 1))], (Int.ofNat (nat_lit 1)))])
  (.leaf (.int .i64 []))
  (.test (.le [([], (Int.negSucc (nat_lit 18446744073709551614))), ([(.var (nat_lit 0)), (.var (nat_lit 1))], (Int.negSucc (nat_lit 0)))])
  (.test (.le [([], (Int.ofNat (nat_lit 9223372036854775809))), ([(.var (nat_lit 0)), (.var (nat_lit 1))], (Int.ofNat (nat_lit 1)))])
  (.leaf (.int .i64 [([], (Int.ofNat (nat_lit 1152921504606846977)))]))
  (.test (.le [([], (Int.negSucc (nat_lit 1152921504606846975))), ([(.wrap .i64 (.add (.lit (Int.ofNat (nat_lit 18446744073709551616))) (.mul (.var (nat_lit 0)) (.var (nat_lit 1)))))], (Int.negSucc (nat_lit 0)))])
  (.test (.le [([], (Int.negSucc (nat_lit 1152921504606846975))), ([(.wrap .i64 (.add (.lit (Int.ofNat (nat_lit 18446744073709551616))) (.mul (.var (nat_lit 0)) (.var (nat_lit 1)))))], (Int.ofNat (nat_lit 1)))])
  (.leaf (.int .i64 [([(.wrap .i64 (.add (.lit (Int.ofNat (nat_lit 18446744073709551616))) (.mul (.var (nat_lit 0)) (.var (nat_lit 1)))))], (Int.ofNat (nat_lit 1)))]))
  (.leaf (.int .i64 [([], (Int.ofNat (nat_lit 1152921504606846977)))])))
  (.leaf (.int .i64 [([], (Int.ofNat (nat_lit 1152921504606846977)))]))))
  (.leaf (.int .i64 [([], (Int.ofNat (nat_lit 1152921504606846977)))]))))
  (.test (.le [([], (Int.negSucc (nat_lit 79228162514264337593543950334))), ([(.var (nat_lit 0)), (.var (nat_lit 1))], (Int.negSucc (nat_lit 0)))])
  (.leaf (.int .i64 [([], (Int.ofNat (nat_lit 1152921504606846977)))]))
  (.leaf (.int .i64 [([], (Int.ofNat (nat_lit 1152921504606846977)))]))))))
  (.test (.le [([], (Int.negSucc (nat_lit 4294967294))), ([(.var (nat_lit 0))], (Int.ofNat (nat_lit 1)))])
  (.test (.eq [([(.var (nat_lit 0))], (Int.ofNat (nat_lit 1)))])
  (.test (.le [([], (Int.ofNat (nat_lit 1))), ([(.var (nat_lit 1))], (Int.ofNat (nat_lit 1)))])
  (.test (.le [([], (Int.negSucc (nat_lit 4294967294))), ([(.var (nat_lit 1))], (Int.negSucc (nat_lit 0)))])
  (.leaf (.int .i64 []))
  (.leaf (.int .i64 [])))
  (.test (.le [([], (Int.negSucc (nat_lit 4294967294))), ([(.var (nat_lit 1))], (Int.ofNat (nat_lit 1)))])
  (.test (.eq [([(.var (nat_lit 1))], (Int.ofNat (nat_lit 1)))])
  (.leaf (.int .i64 []))
  (.leaf (.int .i64 [])))
  (.leaf (.int .i64 []))))
  (.test (.le [([], (Int.ofNat (nat_lit 1))), ([(.var (nat_lit 1))], (Int.ofNat (nat_lit 1)))])
  (.test (.le [([], (Int.negSucc (nat_lit 4294967294))), ([(.var (nat_lit 1))], (Int.negSucc (nat_lit 0)))])
  (.test (.le [([], (Int.negSucc (nat_lit 4294967294))), ([(.var (nat_lit 0)), (.var (nat_lit 1))], (Int.negSucc (nat_lit 0)))])
  (.test (.le [([], (Int.negSucc (nat_lit 1152921504606846975))), ([(.wrap .i64 (.add (.lit (Int.ofNat (nat_lit 18446744073709551616))) (.mul (.var (nat_lit 0)) (.var (nat_lit 1)))))], (Int.negSucc (nat_lit 0)))])
  (.test (.le [([], (Int.negSucc (nat_lit 1152921504606846975))), ([(.wrap .i64 (.add (.lit (Int.ofNat (nat_lit 18446744073709551616))) (.mul (.var (nat_lit 0)) (.var (nat_lit 1)))))], (Int.ofNat (nat_lit 1)))])
  (.leaf (.int .i64 [([(.wrap .i64 (.add (.lit (Int.ofNat (nat_lit 18446744073709551616))) (.mul (.var (nat_lit 0)) (.var (nat_lit 1)))))], (Int.ofNat (nat_lit 1)))]))
  (.leaf (.int .i64 [([], (Int.ofNat (nat_lit 1152921504606846977)))])))
  (.leaf (.int .i64 [([], (Int.ofNat (nat_lit 1152921504606846977)))])))
  (.test (.le [([], (Int.ofNat (nat_lit 9223372036854775809))), ([(.var (nat_lit 0)), (.var (nat_lit 1))], (Int.ofNat (nat_lit 1)))])
  (.leaf (.int .i64 [([], (Int.ofNat (nat_lit 1152921504606846977)))]))
  (.test (.le [([], (Int.negSucc (nat_lit 1152921504606846975))), ([(.wrap .i64 (.add (.lit (Int.ofNat (nat_lit 18446744073709551616))) (.mul (.var (nat_lit 0)) (.var (nat_lit 1)))))], (Int.negSucc (nat_lit 0)))])
  (.test (.le [([], (Int.negSucc (nat_lit 1152921504606846975))), ([(.wrap .i64 (.add (.lit (Int.ofNat (nat_lit 18446744073709551616))) (.mul (.var (nat_lit 0)) (.var (nat_lit 1)))))], (Int.ofNat (nat_lit 1)))])
  (.leaf (.int .i64 [([(.wrap .i64 (.add (.lit (Int.ofNat (nat_lit 18446744073709551616))) (.mul (.var (nat_lit 0)) (.var (nat_lit 1)))))], (Int.ofNat (nat_lit 1)))]))
  (.leaf (.int .i64 [([], (Int.ofNat (nat_lit 1152921504606846977)))])))
  (.leaf (.int .i64 [([], (Int.ofNat (nat_lit 1152921504606846977)))])))))
  (.test (.le [([], (Int.negSucc (nat_lit 18446744073709551614))), ([(.var (nat_lit 0)), (.var (nat_lit 1))], (Int.negSucc (nat_lit 0)))])
  (.test (.le [([], (Int.ofNat (nat_lit 9223372036854775809))), ([(.var (nat_lit 0)), (.var (nat_lit 1))], (Int.ofNat (nat_lit 1)))])
  (.leaf (.int .i64 [([], (Int.ofNat (nat_lit 1152921504606846977)))]))
  (.test (.le [([], (Int.negSucc (nat_lit 1152921504606846975))), ([(.wrap .i64 (.add (.lit (Int.ofNat (nat_lit 18446744073709551616))) (.mul (.var (nat_lit 0)) (.var (nat_lit 1)))))], (Int.negSucc (nat_lit 0)))])
  (.test (.le [([], (Int.negSucc (nat_lit 1152921504606846975))), ([(.wrap .i64 (.add (.lit (Int.ofNat (nat_lit 18446744073709551616))) (.mul (.var (nat_lit 0)) (.var (nat_lit 1)))))], (Int.ofNat (nat_lit 1)))])
  (.leaf (.int .i64 [([(.wrap .i64 (.add (.lit (Int.ofNat (nat_lit 18446744073709551616))) (.mul (.var (nat_lit 0)) (.var (nat_lit 1)))))], (Int.ofNat (nat_lit 1)))]))
  (.leaf (.int .i64 [([], (Int.ofNat (nat_lit 1152921504606846977)))])))
  (.leaf (.int .i64 [([], (Int.ofNat (nat_lit 1152921504606846977)))]))))
  (.leaf (.int .i64 [([], (Int.ofNat (nat_lit 1152921504606846977)))]))))
  (.test (.le [([], (Int.negSucc (nat_lit 4294967294))), ([(.var (nat_lit 1))], (Int.ofNat (nat_lit 1)))])
  (.test (.eq [([(.var (nat_lit 1))], (Int.ofNat (nat_lit 1)))])
  (.leaf (.int .i64 []))
  (.test (.le [([], (Int.negSucc (nat_lit 4294967294))), ([(.var (nat_lit 0)), (.var (nat_lit 1))], (Int.ofNat (nat_lit 1)))])
  (.leaf (.int .i64 [([(.var (nat_lit 0)), (.var (nat_lit 1))], (Int.ofNat (nat_lit 1)))]))
  (.test (.le [([], (Int.ofNat (nat_lit 9223372036854775808))), ([(.var (nat_lit 0)), (.var (nat_lit 1))], (Int.negSucc (nat_lit 0)))])
  (.leaf (.int .i64 [([], (Int.ofNat (nat_lit 1152921504606846977)))]))
  (.test (.le [([], (Int.negSucc (nat_lit 1152921504606846975))), ([(.var (nat_lit 0)), (.var (nat_lit 1))], (Int.ofNat (nat_lit 1)))])
  (.leaf (.int .i64 [([(.var (nat_lit 0)), (.var (nat_lit 1))], (Int.ofNat (nat_lit 1)))]))
  (.leaf (.int .i64 [([], (Int.ofNat (nat_lit 1152921504606846977)))]))))))
  (.test (.le [([], (Int.negSucc (nat_lit 18446744073709551614))), ([(.var (nat_lit 0)), (.var (nat_lit 1))], (Int.ofNat (nat_lit 1)))])
  (.test (.le [([], (Int.ofNat (nat_lit 9223372036854775808))), ([(.var (nat_lit 0)), (.var (nat_lit 1))], (Int.negSucc (nat_lit 0)))])
  (.leaf (.int .i64 [([], (Int.ofNat (nat_lit 1152921504606846977)))]))
  (.test (.le [([], (Int.negSucc (nat_lit 1152921504606846975))), ([(.var (nat_lit 0)), (.var (nat_lit 1))], (Int.ofNat (nat_lit 1)))])
  (.leaf (.int .i64 [([(.var (nat_lit 0)), (.var (nat_lit 1))], (Int.ofNat (nat_lit 1)))]))
  (.leaf (.int .i64 [([], (Int.ofNat (nat_lit 1152921504606846977)))]))))
  (.leaf (.int .i64 [([], (Int.ofNat (nat_lit 1152921504606846977)))]))))))
  (.test (.le [([], (Int.ofNat (nat_lit 1))), ([(.var (nat_lit 1))], (Int.ofNat (nat_lit 1)))])
  (.test (.le [([], (Int.negSucc (nat_lit 4294967294))), ([(.var (nat_lit 1))], (Int.negSucc (nat_lit 0)))])
  (.test (.le [([], (Int.negSucc (nat_lit 18446744073709551614))), ([(.var (nat_lit 0)), (.var (nat_lit 1))], (Int.negSucc (nat_lit 0)))])
  (.test (.le [([], (Int.ofNat (nat_lit 9223372036854775809))), ([(.var (nat_lit 0)), (.var (nat_lit 1))], (Int.ofNat (nat_lit 1)))])
  (.leaf (.int .i64 [([], (Int.ofNat (nat_lit 1152921504606846977)))]))
  (.test (.le [([], (Int.negSucc (nat_lit 1152921504606846975))), ([(.wrap .i64 (.add (.lit (Int.ofNat (nat_lit 18446744073709551616))) (.mul (.var (nat_lit 0)) (.var (nat_lit 1)))))], (Int.negSucc (nat_lit 0)))])
  (.test (.le [([], (Int.negSucc (nat_lit 1152921504606846975))), ([(.wrap .i64 (.add (.lit (Int.ofNat (nat_lit 18446744073709551616))) (.mul (.var (nat_lit 0)) (.var (nat_lit 1)))))], (Int.ofNat (nat_lit 1)))])
  (.leaf (.int .i64 [([(.wrap .i64 (.add (.lit (Int.ofNat (nat_lit 18446744073709551616))) (.mul (.var (nat_lit 0)) (.var (nat_lit 1)))))], (Int.ofNat (nat_lit 1)))]))
  (.leaf (.int .i64 [([], (Int.ofNat (nat_lit 1152921504606846977)))])))
  (.leaf (.int .i64 [([], (Int.ofNat (nat_lit 1152921504606846977)))]))))
  (.leaf (.int .i64 [([], (Int.ofNat (nat_lit 1152921504606846977)))])))
  (.test (.le [([], (Int.negSucc (nat_lit 79228162514264337593543950334))), ([(.var (nat_lit 0)), (.var (nat_lit 1))], (Int.negSucc (nat_lit 0)))])
  (.leaf (.int .i64 [([], (Int.ofNat (nat_lit 1152921504606846977)))]))
  (.leaf (.int .i64 [([], (Int.ofNat (nat_lit 1152921504606846977)))]))))
  (.test (.le [([], (Int.negSucc (nat_lit 4294967294))), ([(.var (nat_lit 1))], (Int.ofNat (nat_lit 1)))])
  (.test (.eq [([(.var (nat_lit 1))], (Int.ofNat (nat_lit 1)))])
  (.leaf (.int .i64 []))
  (.test (.le [([], (Int.negSucc (nat_lit 18446744073709551614))), ([(.var (nat_lit 0)), (.var (nat_lit 1))], (Int.ofNat (nat_lit 1)))])
  (.test (.le [([], (Int.ofNat (nat_lit 9223372036854775808))), ([(.var (nat_lit 0)), (.var (nat_lit 1))], (Int.negSucc (nat_lit 0)))])
  (.leaf (.int .i64 [([], (Int.ofNat (nat_lit 1152921504606846977)))]))
  (.test (.le [([], (Int.negSucc (nat_lit 1152921504606846975))), ([(.var (nat_lit 0)), (.var (nat_lit 1))], (Int.ofNat (nat_lit 1)))])
  (.leaf (.int .i64 [([(.var (nat_lit 0)), (.var (nat_lit 1))], (Int.ofNat (nat_lit 1)))]))
  (.leaf (.int .i64 [([], (Int.ofNat (nat_lit 1152921504606846977)))]))))
  (.leaf (.int .i64 [([], (Int.ofNat (nat_lit 1152921504606846977)))]))))
  (.test (.le [([], (Int.negSucc (nat_lit 79228162514264337593543950334))), ([(.var (nat_lit 0)), (.var (nat_lit 1))], (Int.ofNat (nat_lit 1)))])
  (.leaf (.int .i64 [([], (Int.ofNat (nat_lit 1152921504606846977)))]))
  (.leaf (.int .i64 [([], (Int.ofNat (nat_lit 1152921504606846977)))]))))))), [], []⟩
theorem sc60_isv (D : Den) (v : Int) (hv : (D.env.v 0 * D.env.v 1 ≤ 1152921504606846976 ∧ -1152921504606846976 ≤ D.env.v 0 * D.env.v 1 ∧ v = D.env.v 0 * D.env.v 1) ∨ ((D.env.v 0 * D.env.v 1 ≤ -1152921504606846977 ∨ 1152921504606846977 ≤ D.env.v 0 * D.env.v 1) ∧ v = 1152921504606846977)) : sc60E.tree.isv D .i64 v := by
  simp only [sc60E, isv_le, isv_eq, isv_one, Poly.ev, Mono.ev, E.ev, ofNat_lit, Int.mul_one, Int.negSucc_eq]
  have hp := mul_six (D.env.v 0) (D.env.v 1)
  generalize D.env.v 0 * D.env.v 1 = p at *
  have hw := wrap64s p
  rw [show (18446744073709551616 : Int) + p = ((18446744073709551616 : Nat) : Int) + p from rfl] at hw
  generalize IntKind.i64.wrap (((18446744073709551616 : Nat) : Int) + p) = w at *
  generalize D.env.v 0 = x at *
  generalize D.env.v 1 = y at *
  clear D
  rcases hp with hp | hp | hp | hp | hp | hp
  all_goals repeat' first | refine And.intro ?_ ?_ | (intro _; try (exfalso; omega; done))
  all_goals omega
theorem sc60S_exch : Exch sc60E sc60S := ⟨⟨rfl, rfl, rfl, rfl⟩, rfl, fun D _ _ => by
  refine (STree.isv_ev (sc60_isv D _ ?_)).trans (prodT_ev D 1152921504606846976).symm
  generalize D.env.v 0 * D.env.v 1 = p
  repeat' split
  all_goals omega⟩
def sc59S : Summ := ⟨ints2A, prod60K, prodT 576460752303423488, [], []⟩
def sc59E : Summ := ⟨ints2A, prod60K, (.test (.le [([], (Int.ofNat (nat_lit 1))), ([(.var (nat_lit 0))], (Int.ofNat (nat_lit 1)))])
  (.test (.le [([], (Int.negSucc (nat_lit 4294967294))), ([(.var (nat_lit 0))], (Int.negSucc (nat_lit 0)))])
  (.test (.le [([], (Int.ofNat (nat_lit 1))), ([(.var (nat_lit 1))], (Int.ofNat (nat_lit 1)))])
  (.test (.le [([], (Int.negSucc (nat_lit 4294967294))), ([(.var (nat_lit 1))], (Int.negSucc (nat_lit 0)))])
  (.test (.le [([], (Int.negSucc (nat_lit 4294967294))), ([(.var (nat_lit 0)), (.var (nat_lit 1))], (Int.ofNat (nat_lit 1)))])
  (.leaf (.int .i64 [([(.var (nat_lit 0)), (.var (nat_lit 1))], (Int.ofNat (nat_lit 1)))]))
  (.test (.le [([], (Int.ofNat (nat_lit 9223372036854775808))), ([(.var (nat_lit 0)), (.var (nat_lit 1))], (Int.negSucc (nat_lit 0)))])
  (.leaf (.int .i64 [([], (Int.ofNat (nat_lit 576460752303423489)))]))
  (.test (.le [([], (Int.ofNat (nat_lit 576460752303423489))), ([(.var (nat_lit 0)), (.var (nat_lit 1))], (Int.negSucc (nat_lit 0)))])
  (.leaf (.int .i64 [([], (Int.ofNat (nat_lit 576460752303423489)))]))
  (.leaf (.int .i64 [([(.var (nat_lit 0)), (.var (nat_lit 1))], (Int.ofNat (nat_lit 1)))])))))
  (.test (.le [([], (Int.negSucc (nat_lit 18446744073709551614))), ([(.var (nat_lit 0)), (.var (nat_lit 1))], (Int.ofNat (nat_lit 1)))])
  (.test (.le [([], (Int.ofNat (nat_lit 9223372036854775808))), ([(.var (nat_lit 0)), (.var (nat_lit 1))], (Int.negSucc (nat_lit 0)))])
  (.leaf (.int .i64 [([], (Int.ofNat (nat_lit 576460752303423489)))]))
  (.test (.le [([], (Int.ofNat (nat_lit 576460752303423489))), ([(.var (nat_lit 0)), (.var (nat_lit 1))], (Int.negSucc (nat_lit 0)))])
  (.leaf (.int .i64 [([], (Int.ofNat (nat_lit 576460752303423489)))]))
  (.leaf (.int .i64 [([(.var (nat_lit 0)), (.var (nat_lit 1))], (Int.ofNat (nat_lit 1)))]))))
  (.leaf (.int .i64 [([], (Int.ofNat (nat_lit 576460752303423489)))]))))
  (.test (.le [([], (Int.negSucc (nat_lit 4294967294))), ([(.var (nat_lit 1))], (Int.ofNat (nat_lit 1)))])
  (.test (.eq [([(.var (nat_lit 1))], (Int.ofNat (nat_lit 1)))])
  (.leaf (.int .i64 []))
  (.test (.le [([], (Int.negSucc (nat_lit 4294967294))), ([(.var (nat_lit 0)), (.var (nat_lit 1))], (Int.negSucc (nat_lit 0)))])
  (.test (.le [([], (Int.ofNat (nat_lit 576460752303423489))), ([(.wrap .i64 (.add (.lit (Int.ofNat (nat_lit 18446744073709551616))) (.mul (.var (nat_lit 0)) (.var (nat_lit 1)))))], (Int.ofNat (nat_lit 1)))])
  (.leaf (.int .i64 [([], (Int.ofNat (nat_lit 576460752303423489)))]))
  (.test (.le [([], (Int.ofNat (nat_lit 576460752303423489))), ([(.wrap .i64 (.add (.lit (Int.ofNat (nat_lit 18446744073709551616))) (.mul (.var (nat_lit 0)) (.var (nat_lit 1)))))], (Int.negSucc (nat_lit 0)))])
  (.leaf (.int .i64 [([], (Int.ofNat (nat_lit 576460752303423489)))]))
  (.leaf (.int .i64 [([(.wrap .i64 (.add (.lit (Int.ofNat (nat_lit 18446744073709551616))) (.mul (.var (nat_lit 0)) (.var (nat_lit 1)))))], (Int.ofNat (nat_lit 1)))]))))
  (.test (.le [([], (Int.ofNat (nat_lit 9223372036854775809))), ([(.var (nat_lit 0)), (.var (nat_lit 1))], (Int.ofNat (nat_lit 1)))])
  (.leaf (.int .i64 [([], (Int.ofNat (nat_lit 576460752303423489)))]))
  (.test (.le [([], (Int.ofNat (nat_lit 576460752303423489))), ([(.wrap .i64 (.add (.lit (Int.ofNat (nat_lit 18446744073709551616))) (.mul (.var (nat_lit 0)) (.var (nat_lit 1)))))], (Int.ofNat (nat_lit 1)))])
  (.leaf (.int .i64 [([], (Int.ofNat (nat_lit 576460752303423489)))]))
  (.test (.le [([], (Int.ofNat (nat_lit 576460752303423489))), ([(.wrap .i64 (.add (.lit (Int.ofNat (nat_lit 18446744073709551616))) (.mul (.var (nat_lit 0)) (.var (nat_lit 1)))))], (Int.negSucc (nat_lit 0)))])
  (.leaf (.int .i64 [([], (Int.ofNat (nat_lit 576460752303423489)))]))
  (.leaf (.int .i64 [([(.wrap .i64 (.add (.lit (Int.ofNat (nat_lit 18446744073709551616))) (.mul (.var (nat_lit 0)) (.var (nat_lit 1)))))], (Int.ofNat (nat_lit 1)))])))))))
  (.test (.le [([], (Int.negSucc (nat_lit 18446744073709551614))), ([(.var (nat_lit 0)), (.var (nat_lit 1))], (Int.negSucc (nat_lit 0)))])
  (.test (.le [([], (Int.ofNat (nat_lit 9223372036854775809))), ([(.var (nat_lit 0)), (.var (nat_lit 1))], (Int.ofNat (nat_lit 1)))])
  (.leaf (.int .i64 [([], (Int.ofNat (nat_lit 576460752303423489)))]))
  (.test (.le [([], (Int.ofNat (nat_lit 576460752303423489))), ([(.wrap .i64 (.add (.lit (Int.ofNat (nat_lit 18446744073709551616))) (.mul (.var (nat_lit 0)) (.var (nat_lit 1)))))], (Int.ofNat (nat_lit 1)))])
  (.leaf (.int .i64 [([], (Int.ofNat (nat_lit 576460752303423489)))]))
  (.test (.le [([], (Int.ofNat (nat_lit 576460752303423489))), ([(.wrap .i64 (.add (.lit (Int.ofNat (nat_lit 18446744073709551616))) (.mul (.var (nat_lit 0)) (.var (nat_lit 1)))))], (Int.negSucc (nat_lit 0)))])
  (.leaf (.int .i64 [([], (Int.ofNat (nat_lit 576460752303423489)))]))
  (.leaf (.int .i64 [([(.wrap .i64 (.add (.lit (Int.ofNat (nat_lit 18446744073709551616))) (.mul (.var (nat_lit 0)) (.var (nat_lit 1)))))], (Int.ofNat (nat_lit 1)))])))))
  (.leaf (.int .i64 [([], (Int.ofNat (nat_lit 576460752303423489)))])))))
  (.test (.le [([], (Int.ofNat (nat_lit 1))), ([(.var (nat_lit 1))], (Int.ofNat (nat_lit 1)))])
  (.test (.le [([], (Int.negSucc (nat_lit 4294967294))), ([(.var (nat_lit 1))], (Int.negSucc (nat_lit 0)))])
  (.test (.le [([], (Int.negSucc (nat_lit 18446744073709551614))), ([(.var (nat_lit 0)), (.var (nat_lit 1))], (Int.ofNat (nat_lit 1)))])
  (.test (.le [([], (Int.ofNat (nat_lit 9223372036854775808))), ([(.var (nat_lit 0)), (.var (nat_lit 1))], (Int.negSucc (nat_lit 0)))])
  (.leaf (.int .i64 [([], (Int.ofNat (nat_lit 576460752303423489)))]))
  (.test (.le [([], (Int.ofNat (nat_lit 576460752303423489))), ([(.var (nat_lit 0)), (.var (nat_lit 1))], (Int.negSucc (nat_lit 0)))])
  (.leaf (.int .i64 [([], (Int.ofNat (nat_lit 576460752303423489)))]))
  (.leaf (.int .i64 [([(.var (nat_lit 0)), (.var (nat_lit 1))], (Int.ofNat (nat_lit 1)))]))))
  (.leaf (.int .i64 [([], (Int.ofNat (nat_lit 576460752303423489)))])))
  (.test (.le [([], (Int.negSucc (nat_lit 79228162514264337593543950334))), ([(.var (nat_lit 0)), (.var (nat_lit 1))], (Int.ofNat (nat_lit 1)))])
  (.leaf (.int .i64 [([], (Int.ofNat (nat_lit 576460752303423489)))]))
  (.leaf (.int .i64 [([], (Int.ofNat (nat_lit 576460752303423489)))]))))
  (.test (.le [([], (Int.negSucc (nat_lit 4294967294))), ([(.var (nat_lit 1))], (Int.ofNat (nat_lit 1)))])
  (.test (.eq [([(.var (nat_lit 1))], (Int.ofNat (nat_lit 1)))])
  (.leaf (.int .i64 []))
  (.test (.le [([], (Int.negSucc (nat_lit 18446744073709551614))), ([(.var (nat_lit 0)), (.var (nat_lit 1))], (Int.negSucc (nat_lit 0)))])
  (.test (.le [([], (Int.ofNat (nat_lit 9223372036854775809))), ([(.var (nat_lit 0)), (.var (nat_lit 1))], (Int.ofNat (nat_lit 1)))])
  (.leaf (.int .i64 [([], (Int.ofNat (nat_lit 576460752303423489)))]))
  (.test (.le [([], (Int.ofNat (nat_lit 576460752303423489))), ([(.wrap .i64 (.add (.lit (Int.ofNat (nat_lit 18446744073709551616))) (.mul (.var (nat_lit 0)) (.var (nat_lit 1)))))], (Int.ofNat (nat_lit 1)))])
  (.leaf (.int .i64 [([], (Int.ofNat (nat_lit 576460752303423489)))]))
  (.test (.le [([], (Int.ofNat (nat_lit 576460752303423489))), ([(.wrap .i64 (.add (.lit (Int.ofNat (nat_lit 18446744073709551616))) (.mul (.var (nat_lit 0)) (.var (nat_lit 1)))))], (Int.negSucc (nat_lit 0)))])
  (.leaf (.int .i64 [([], (Int.ofNat (nat_lit 576460752303423489)))]))
  (.leaf (.int .i64 [([(.wrap .i64 (.add (.lit (Int.ofNat (nat_lit 18446744073709551616))) (.mul (.var (nat_lit 0)) (.var (nat_lit 1)))))], (Int.ofNat (nat_lit 1)))])))))
  (.leaf (.int .i64 [([], (Int.ofNat (nat_lit 576460752303423489)))]))))
  (.test (.le [([], (Int.negSucc (nat_lit 79228162514264337593543950334))), ([(.var (nat_lit 0)), (.var (nat_lit 1))], (Int.negSucc (nat_lit 0)))])
  (.leaf (.int .i64 [([], (Int.ofNat (nat_lit 576460752303423489)))]))
  (.leaf (.int .i64 [([], (Int.ofNat (nat_lit 576460752303423489)))]))))))
  (.test (.le [([], (Int.negSucc (nat_lit 4294967294))), ([(.var (nat_lit 0))], (Int.ofNat (nat_lit 1)))])
  (.test (.eq [([(.var (nat_lit 0))], (Int.ofNat (nat_lit 1)))])
  (.test (.le [([], (Int.ofNat (nat_lit 1))), ([(.var (nat_lit 1))], (Int.ofNat (nat_lit 1)))])
  (.test (.le [([], (Int.negSucc (nat_lit 4294967294))), ([(.var (nat_lit 1))], (Int.negSucc (nat_lit 0)))])
  (.leaf (.int .i64 []))
  (.leaf (.int .i64 [])))
  (.test (.le [([], (Int.negSucc (nat_lit 4294967294))), ([(.var (nat_lit 1))], (Int.ofNat (nat_lit 1)))])
  (.test (.eq [([(.var (nat_lit 1))], (Int.ofNat (nat_lit 1)))])
  (.leaf (.int .i64 []))
  (.leaf (.int .i64 [])))
  (.leaf (.int .i64 []))))
  (.test (.le [([], (Int.ofNat (nat_lit 1))), ([(.var (nat_lit 1))], (Int.ofNat (nat_lit 1)))])
  (.test (.le [([], (Int.negSucc (nat_lit 4294967294))), ([(.var (nat_lit 1))], (Int.negSucc (nat_lit 0)))])
  (.test (.le [([], (Int.negSucc (nat_lit 4294967294))), ([(.var (nat_lit 0)), (.var (nat_lit 1))], (Int.negSucc (nat_lit 0)))])
  (.test (.le [([], (Int.ofNat (nat_lit 576460752303423489))), ([(.wrap .i64 (.add (.lit (Int.ofNat (nat_lit 18446744073709551616))) (.mul (.var (nat_lit 0)) (.var (nat_lit 1)))))], (Int.ofNat (nat_lit 1)))])
  (.leaf (.int .i64 [([], (Int.ofNat (nat_lit 576460752303423489)))]))
  (.test (.le [([], (Int.ofNat (nat_lit 576460752303423489))), ([(.wrap .i64 (.add (.lit (Int.ofNat (nat_lit 18446744073709551616))) (.mul (.var (nat_lit 0)) (.var (nat_lit 1)))))], (Int.negSucc (nat_lit 0)))])
  (.leaf (.int .i64 [([], (Int.ofNat (nat_lit 576460752303423489)))]))
  (.leaf (.int .i64 [([(.wrap .i64 (.add (.lit (Int.ofNat (nat_lit 18446744073709551616))) (.mul (.var (nat_lit 0)) (.var (nat_lit 1)))))], (Int.ofNat (nat_lit 1)))]))))
  (.test (.le [([], (Int.ofNat (nat_lit 9223372036854775809))), ([(.var (nat_lit 0)), (.var (nat_lit 1))], (Int.ofNat (nat_lit 1)))])
  (.leaf (.int .i64 [([], (Int.ofNat (nat_lit 576460752303423489)))]))
  (.test (.le [([], (Int.ofNat (nat_lit 576460752303423489))), ([(.wrap .i64 (.add (.lit (Int.ofNat (nat_lit 18446744073709551616))) (.mul (.var (nat_lit 0)) (.var (nat_lit 1)))))], (Int.ofNat (nat_lit 1)))])
  (.leaf (.int .i64 [([], (Int.ofNat (nat_lit 576460752303423489)))]))
  (.test (.le [([], (Int.ofNat (nat_lit 576460752303423489))), ([(.wrap .i64 (.add (.lit (Int.ofNat (nat_lit 18446744073709551616))) (.mul (.var (nat_lit 0)) (.var (nat_lit 1)))))], (Int.negSucc (nat_lit 0)))])
  (.leaf (.int .i64 [([], (Int.ofNat (nat_lit 576460752303423489)))]))
  (.leaf (.int .i64 [([(.wrap .i64 (.add (.lit (Int.ofNat (nat_lit 18446744073709551616))) (.mul (.var (nat_lit 0)) (.var (nat_lit 1)))))], (Int.ofNat (nat_lit 1)))]))))))
  (.test (.le [([], (Int.negSucc (nat_lit 18446744073709551614))), ([(.var (nat_lit 0)), (.var (nat_lit 1))], (Int.negSucc (nat_lit 0)))])
  (.test (.le [([], (Int.ofNat (nat_lit 9223372036854775809))), ([(.var (nat_lit 0)), (.var (nat_lit 1))], (Int.ofNat (nat_lit 1)))])
  (.leaf (.int .i64 [([], (Int.ofNat (nat_lit 576460752303423489)))]))
  (.test (.le [([], (Int.ofNat (nat_lit 576460752303423489))), ([(.wrap .i64 (.add (.lit (Int.ofNat (nat_lit 18446744073709551616))) (.mul (.var (nat_lit 0)) (.var (nat_lit 1)))))], (Int.ofNat (nat_lit 1)))])
  (.leaf (.int .i64 [([], (Int.ofNat (nat_lit 576460752303423489)))]))
  (.test (.le [([], (Int.ofNat (nat_lit 576460752303423489))), ([(.wrap .i64 (.add (.lit (Int.ofNat (nat_lit 18446744073709551616))) (.mul (.var (nat_lit 0)) (.var (nat_lit 1)))))], (Int.negSucc (nat_lit 0)))])
  (.leaf (.int .i64 [([], (Int.ofNat (nat_lit 576460752303423489)))]))
  (.leaf (.int .i64 [([(.wrap .i64 (.add (.lit (Int.ofNat (nat_lit 18446744073709551616))) (.mul (.var (nat_lit 0)) (.var (nat_lit 1)))))], (Int.ofNat (nat_lit 1)))])))))
  (.leaf (.int .i64 [([], (Int.ofNat (nat_lit 576460752303423489)))]))))
  (.test (.le [([], (Int.negSucc (nat_lit 4294967294))), ([(.var (nat_lit 1))], (Int.ofNat (nat_lit 1)))])
  (.test (.eq [([(.var (nat_lit 1))], (Int.ofNat (nat_lit 1)))])
  (.leaf (.int .i64 []))
  (.test (.le [([], (Int.negSucc (nat_lit 4294967294))), ([(.var (nat_lit 0)), (.var (nat_lit 1))], (Int.ofNat (nat_lit 1)))])
  (.leaf (.int .i64 [([(.var (nat_lit 0)), (.var (nat_lit 1))], (Int.ofNat (nat_lit 1)))]))
  (.test (.le [([], (Int.ofNat (nat_lit 9223372036854775808))), ([(.var (nat_lit 0)), (.var (nat_lit 1))], (Int.negSucc (nat_lit 0)))])
  (.leaf (.int .i64 [([], (Int.ofNat (nat_lit 576460752303423489)))]))
  (.test (.le [([], (Int.ofNat (nat_lit 576460752303423489))), ([(.var (nat_lit 0)), (.var (nat_lit 1))], (Int.negSucc (nat_lit 0)))])
  (.leaf (.int .i64 [([], (Int.ofNat (nat_lit 576460752303423489)))]))
  (.leaf (.int .i64 [([(.var (nat_lit 0)), (.var (nat_lit 1))], (Int.ofNat (nat_lit 1)))]))))))
  (.test (.le [([], (Int.negSucc (nat_lit 18446744073709551614))), ([(.var (nat_lit 0)), (.var (nat_lit 1))], (Int.ofNat (nat_lit 1)))])
  (.test (.le [([], (Int.ofNat (nat_lit 9223372036854775808))), ([(.var (nat_lit 0)), (.var (nat_lit 1))], (Int.negSucc (nat_lit 0)))])
  (.leaf (.int .i64 [([], (Int.ofNat (nat_lit 576460752303423489)))]))
  (.test (.le [([], (Int.ofNat (nat_lit 576460752303423489))), ([(.var (nat_lit 0)), (.var (nat_lit 1))], (Int.negSucc (nat_lit 0)))])
  (.leaf (.int .i64 [([], (Int.ofNat (nat_lit 576460752303423489)))]))
  (.leaf (.int .i64 [([(.var (nat_lit 0)), (.var (nat_lit 1))], (Int.ofNat (nat_lit 1)))]))))
  (.leaf (.int .i64 [([], (Int.ofNat (nat_lit 576460752303423489)))]))))))
  (.test (.le [([], (Int.ofNat (nat_lit 1))), ([(.var (nat_lit 1))], (Int.ofNat (nat_lit 1)))])
  (.test (.le [([], (Int.negSucc (nat_lit 4294967294))), ([(.var (nat_lit 1))], (Int.negSucc (nat_lit 0)))])
  (.test (.le [([], (Int.negSucc (nat_lit 18446744073709551614))), ([(.var (nat_lit 0)), (.var (nat_lit 1))], (Int.negSucc (nat_lit 0)))])
  (.test (.le [([], (Int.ofNat (nat_lit 9223372036854775809))), ([(.var (nat_lit 0)), (.var (nat_lit 1))], (Int.ofNat (nat_lit 1)))])
  (.leaf (.int .i64 [([], (Int.ofNat (nat_lit 576460752303423489)))]))
  (.test (.le [([], (Int.ofNat (nat_lit 576460752303423489))), ([(.wrap .i64 (.add (.lit (Int.ofNat (nat_lit 18446744073709551616))) (.mul (.var (nat_lit 0)) (.var (nat_lit 1)))))], (Int.ofNat (nat_lit 1)))])
  (.leaf (.int .i64 [([], (Int.ofNat (nat_lit 576460752303423489)))]))
  (.test (.le [([], (Int.ofNat (nat_lit 576460752303423489))), ([(.wrap .i64 (.add (.lit (Int.ofNat (nat_lit 18446744073709551616))) (.mul (.var (nat_lit 0)) (.var (nat_lit 1)))))], (Int.negSucc (nat_lit 0)))])
  (.leaf (.int .i64 [([], (Int.ofNat (nat_lit 576460752303423489)))]))
  (.leaf (.int .i64 [([(.wrap .i64 (.add (.lit (Int.ofNat (nat_lit 18446744073709551616))) (.mul (.var (nat_lit 0)) (.var (nat_lit 1)))))], (Int.ofNat (nat_lit 1)))])))))
  (.leaf (.int .i64 [([], (Int.ofNat (nat_lit 576460752303423489)))])))
  (.test (.le [([], (Int.negSucc (nat_lit 79228162514264337593543950334))), ([(.var (nat_lit 0)), (.var (nat_lit 1))], (Int.negSucc (nat_lit 0)))])
  (.leaf (.int .i64 [([], (Int.ofNat (nat_lit 576460752303423489)))]))
  (.leaf (.int .i64 [([], (Int.ofNat (nat_lit 576460752303423489)))]))))
  (.test (.le [([], (Int.negSucc (nat_lit 4294967294))), ([(.var (nat_lit 1))], (Int.ofNat (nat_lit 1)))])
  (.test (.eq [([(.var (nat_lit 1))], (Int.ofNat (nat_lit 1)))])
  (.leaf (.int .i64 []))
  (.test (.le [([], (Int.negSucc (nat_lit 18446744073709551614))), ([(.var (nat_lit 0)), (.var (nat_lit 1))], (Int.ofNat (nat_lit 1)))])
  (.test (.le [([], (Int.ofNat (nat_lit 9223372036854775808))), ([(.var (nat_lit 0)), (.var (nat_lit 1))], (Int.negSucc (nat_lit 0)))])
  (.leaf (.int .i64 [([], (Int.ofNat (nat_lit 576460752303423489)))]))
  (.test (.le [([], (Int.ofNat (nat_lit 576460752303423489))), ([(.var (nat_lit 0)), (.var (nat_lit 1))], (Int.negSucc (nat_lit 0)))])
  (.leaf (.int .i64 [([], (Int.ofNat (nat_lit 576460752303423489)))]))
  (.leaf (.int .i64 [([(.var (nat_lit 0)), (.var (nat_lit 1))], (Int.ofNat (nat_lit 1)))]))))
  (.leaf (.int .i64 [([], (Int.ofNat (nat_lit 576460752303423489)))]))))
  (.test (.le [([], (Int.negSucc (nat_lit 79228162514264337593543950334))), ([(.var (nat_lit 0)), (.var (nat_lit 1))], (Int.ofNat (nat_lit 1)))])
  (.leaf (.int .i64 [([], (Int.ofNat (nat_lit 576460752303423489)))]))
  (.leaf (.int .i64 [([], (Int.ofNat (nat_lit 576460752303423489)))]))))))), [], []⟩
theorem sc59_isv (D : Den) (v : Int) (hv : (D.env.v 0 * D.env.v 1 ≤ 576460752303423488 ∧ -576460752303423488 ≤ D.env.v 0 * D.env.v 1 ∧ v = D.env.v 0 * D.env.v 1) ∨ ((D.env.v 0 * D.env.v 1 ≤ -576460752303423489 ∨ 576460752303423489 ≤ D.env.v 0 * D.env.v 1) ∧ v = 576460752303423489)) : sc59E.tree.isv D .i64 v := by
  simp only [sc59E, isv_le, isv_eq, isv_one, Poly.ev, Mono.ev, E.ev, ofNat_lit, Int.mul_one, Int.negSucc_eq]
  have hp := mul_six (D.env.v 0) (D.env.v 1)
  generalize D.env.v 0 * D.env.v 1 = p at *
  have hw := wrap64s p
  rw [show (18446744073709551616 : Int) + p = ((18446744073709551616 : Nat) : Int) + p from rfl] at hw
  generalize IntKind.i64.wrap (((18446744073709551616 : Nat) : Int) + p) = w at *
  generalize D.env.v 0 = x at *
  generalize D.env.v 1 = y at *
  clear D
  rcases hp with hp | hp | hp | hp | hp | hp
  all_goals repeat' first | refine And.intro ?_ ?_ | (intro _; try (exfalso; omega; done))
  all_goals omega
theorem sc59S_exch : Exch sc59E sc59S := ⟨⟨rfl, rfl, rfl, rfl⟩, rfl, fun D _ _ => by
  refine (STree.isv_ev (sc59_isv D _ ?_)).trans (prodT_ev D 576460752303423488).symm
  generalize D.env.v 0 * D.env.v 1 = p
  repeat' split
  all_goals omega⟩

end Go.Sym

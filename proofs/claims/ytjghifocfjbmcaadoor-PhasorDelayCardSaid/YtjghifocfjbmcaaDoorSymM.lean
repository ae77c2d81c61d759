/- SymGo, by hand: summaries whose trees are exchanged for plainer ones. -/
import Derived.Test.YtjghifocfjbmcaaDoorSym14
namespace Go.Sym

/-- What the exchange asks. -/
def Exch (m m' : Summ) : Prop := (m.args = m'.args ∧ m.rows = m'.rows ∧ m.tree.plainT = true ∧ m'.tree.plainT = true) ∧ m.l = m'.l ∧ ∀ D : Den, D.env.f = stdF → (∀ (i : Nat) (k : Iv), m.l[i]? = some k → k.has (D.env.v i)) → m.tree.ev D = m'.tree.ev D
theorem Exch.ok {P : Program} {X : Nat → List SV} {gx : Nat → Option Nat} {g : FuncId} {m m' : Summ} (h : SumOk P X gx g m) (he : Exch m m') : SumOk P X gx g m' := by
  obtain ⟨a, l, t, r, v⟩ := m
  obtain ⟨a', l', t', r', v'⟩ := m'
  obtain ⟨⟨h1, h4, h5, h6⟩, h2, h3⟩ := he
  simp only at h1 h2 h3 h4 h5 h6
  subst h1 h2 h4
  exact SumOk.congr h h5 h6 v' h3
/-- A summary of plain numbers. -/
def sum3 (a : List SV) (l : List Iv) (t : STree) : Summ := ⟨a, l, t, [], []⟩
theorem ev_one (D : Den) (p : Poly) (k : IntKind) : (STree.leaf (.int k p)).ev D = some (.int k (Poly.ev D.env p)) := rfl
theorem ev_le (D : Den) (p : Poly) (a b : STree) : (STree.test (.le p) a b).ev D = if Poly.ev D.env p ≤ 0 then a.ev D else b.ev D := by
  simp only [STree.ev, Quest.test]
  by_cases h : Poly.ev D.env p ≤ 0 <;> simp [h]
theorem ev_eq (D : Den) (p : Poly) (a b : STree) : (STree.test (.eq p) a b).ev D = if Poly.ev D.env p = 0 then a.ev D else b.ev D := by
  simp only [STree.ev, Quest.test]
  by_cases h : Poly.ev D.env p = 0 <;> simp [h]

/-! ### within(n, m) for a known m: the residue -/
def withinA (m : Nat) : List SV := [.int .i64 [([.var 0], 1)], .int .i64 [([], (m : Int))]]
def withinE (m : Nat) : Summ := ⟨withinA m, [ivT .i64, ivT .i64], .test (.le [([], 1), ([.rem (.var 0) (.lit (m : Int))], 1)]) (.leaf (.int .i64 [([], (m : Int)), ([.rem (.var 0) (.lit (m : Int))], 1)])) (.leaf (.int .i64 [([.rem (.var 0) (.lit (m : Int))], 1)])), [], []⟩
def withinS (m : Nat) : Summ := ⟨withinA m, [ivT .i64, ivT .i64], .leaf (.int .i64 [([.emod m (.var 0)], 1)]), [], []⟩
theorem withinS_exch {m : Nat} (hm : 0 < m) : Exch (withinE m) (withinS m) := ⟨⟨rfl, rfl, rfl, rfl⟩, rfl, fun D _ _ => by
  simp only [withinE, withinS, ev_le, ev_one, Poly.ev, Mono.ev, E.ev, Int.mul_one, Int.one_mul, Int.add_zero]
  have h := tmod_emod (D.env.v 0) (m : Int)
  have hb := tmod_bounds (n := D.env.v 0) (m := (m : Int)) (by omega)
  generalize (D.env.v 0).tmod (m : Int) = r at *
  by_cases hr : 1 + r ≤ 0
  · rw [if_pos hr, ← h]
    have : (m + r) % (m : Int) = m + r := Int.emod_eq_of_lt (by omega) (by omega)
    rw [← this, Int.add_emod_left]
  · rw [if_neg hr, ← h, Int.emod_eq_of_lt (by omega) (by omega)]⟩

/-! ### bits.Mul64 -/
def u64A : List SV := [.int .u64 [([.var 0], 1)], .int .u64 [([.var 1], 1)]]
def mulB : E := .lit (Int.ofNat (nat_lit 4294967296))
def mul64E : Summ := ⟨u64A, [ivT .u64, ivT .u64], .leaf (.tuple [(.int .u64 [([(.fdiv (.add (.fdiv (.mul (.emod (nat_lit 4294967296) (.var (nat_lit 0))) (.emod (nat_lit 4294967296) (.var (nat_lit 1)))) (.lit (Int.ofNat (nat_lit 4294967296)))) (.mul (.fdiv (.var (nat_lit 0)) (.lit (Int.ofNat (nat_lit 4294967296)))) (.emod (nat_lit 4294967296) (.var (nat_lit 1))))) (.lit (Int.ofNat (nat_lit 4294967296))))], (Int.ofNat (nat_lit 1))), ([(.fdiv (.add (.emod (nat_lit 4294967296) (.add (.fdiv (.mul (.emod (nat_lit 4294967296) (.var (nat_lit 0))) (.emod (nat_lit 4294967296) (.var (nat_lit 1)))) (.lit (Int.ofNat (nat_lit 4294967296)))) (.mul (.var (nat_lit 1)) (.fdiv (.var (nat_lit 0)) (.lit (Int.ofNat (nat_lit 4294967296))))))) (.mul (.fdiv (.var (nat_lit 1)) (.lit (Int.ofNat (nat_lit 4294967296)))) (.emod (nat_lit 4294967296) (.var (nat_lit 0))))) (.lit (Int.ofNat (nat_lit 4294967296))))], (Int.ofNat (nat_lit 1))), ([(.fdiv (.var (nat_lit 0)) (.lit (Int.ofNat (nat_lit 4294967296)))), (.fdiv (.var (nat_lit 1)) (.lit (Int.ofNat (nat_lit 4294967296))))], (Int.ofNat (nat_lit 1)))]), (.int .u64 [([(.wrap .u64 (.mul (.var (nat_lit 0)) (.var (nat_lit 1))))], (Int.ofNat (nat_lit 1)))])]), [], []⟩
def mul64S : Summ := ⟨u64A, [ivT .u64, ivT .u64], .leaf (.tuple [.int .u64 [([.fdiv (.mul (.var 0) (.var 1)) (.lit 18446744073709551616)], 1)], .int .u64 [([.wrap .u64 (.mul (.var 0) (.var 1))], 1)]]), [], []⟩
theorem mul64_hi (x y : Int) (hx0 : 0 ≤ x) (hx1 : x < 18446744073709551616) (hy0 : 0 ≤ y) (hy1 : y < 18446744073709551616) :
    (((x % 4294967296) * (y % 4294967296)) / 4294967296 + (x / 4294967296) * (y % 4294967296)) / 4294967296 +
      ((((x % 4294967296) * (y % 4294967296)) / 4294967296 + y * (x / 4294967296)) % 4294967296 + (y / 4294967296) * (x % 4294967296)) / 4294967296 +
      (x / 4294967296) * (y / 4294967296) = (x * y) / 18446744073709551616 := by
  have hx := Int.mul_ediv_add_emod x 4294967296
  have hy := Int.mul_ediv_add_emod y 4294967296
  have h1 := Int.emod_nonneg x (show (4294967296 : Int) ≠ 0 by decide)
  have h2 := Int.emod_lt_of_pos x (show (0 : Int) < 4294967296 by decide)
  have h3 := Int.emod_nonneg y (show (4294967296 : Int) ≠ 0 by decide)
  have h4 := Int.emod_lt_of_pos y (show (0 : Int) < 4294967296 by decide)
  have h5 : 0 ≤ x / 4294967296 := by omega
  have h6 : 0 ≤ y / 4294967296 := by omega
  generalize x / 4294967296 = a at *
  generalize y / 4294967296 = c at *
  generalize x % 4294967296 = b at *
  generalize y % 4294967296 = d at *
  subst hx hy
  have e1 : (4294967296 * c + d) * a = 4294967296 * (a * c) + a * d := by rw [Int.add_mul, Int.mul_assoc, Int.mul_comm c, Int.mul_comm d]
  have e2 : (4294967296 * a + b) * (4294967296 * c + d) = 18446744073709551616 * (a * c) + 4294967296 * (a * d) + 4294967296 * (b * c) + b * d := by
    rw [Int.add_mul, Int.mul_add, Int.mul_add]
    rw [show 4294967296 * a * (4294967296 * c) = 18446744073709551616 * (a * c) by rw [Int.mul_assoc, Int.mul_left_comm a, ← Int.mul_assoc]; rfl]
    rw [Int.mul_assoc 4294967296 a d, Int.mul_left_comm b 4294967296 c]
    omega
  rw [e1, e2, Int.mul_comm c b]
  have g1 : 0 ≤ a * c := Int.mul_nonneg h5 h6
  have g2 : 0 ≤ a * d := Int.mul_nonneg h5 h3
  have g3 : 0 ≤ b * c := Int.mul_nonneg h1 h6
  have g4 : 0 ≤ b * d := Int.mul_nonneg h1 h3
  generalize a * c = p at *
  generalize a * d = q at *
  generalize b * c = r at *
  generalize b * d = s at *
  omega
theorem fdiv_pos {a b : Int} (h : 0 ≤ b) : a.fdiv b = a / b := Int.fdiv_eq_ediv_of_nonneg a h
theorem kinds2 {ρ : Env} {k l : Iv} (h : ∀ (i : Nat) (m : Iv), [k, l][i]? = some m → m.has (ρ.v i)) : k.has (ρ.v 0) ∧ l.has (ρ.v 1) := ⟨h 0 k rfl, h 1 l rfl⟩
theorem mul64S_exch : Exch mul64E mul64S := ⟨⟨rfl, rfl, rfl, rfl⟩, rfl, fun D _ hk => by
  obtain ⟨⟨a1, a2⟩, b1, b2⟩ := kinds2 hk
  simp only [ivT] at a1 a2 b1 b2
  have h := mul64_hi (D.env.v 0) (D.env.v 1) a1 (by omega) b1 (by omega)
  simp only [mul64E, mul64S, STree.ev, SV.den, SV.denL, Option.map_some, Option.bind_some, Poly.ev, Mono.ev, E.ev]
  have c1 : (Int.ofNat 1) = 1 := rfl
  have c2 : (Int.ofNat 4294967296) = 4294967296 := rfl
  have c3 : ((4294967296 : Nat) : Int) = 4294967296 := rfl
  simp only [c1, c2, c3, Int.one_mul, Int.mul_one, Int.add_zero]
  rw [fdiv_pos (by decide), fdiv_pos (by decide), fdiv_pos (by decide), fdiv_pos (by decide), fdiv_pos (by decide), fdiv_pos (by decide), ← Int.add_assoc, h]⟩

/-! ### magnitude(n) -/
def magA : List SV := [.int .i64 [([.var 0], 1)]]
def magE : Summ := ⟨magA, [ivT .i64], .test (.le [([], 1), ([.var 0], 1)]) (.leaf (.int .u64 [([.wrap .u64 (.mul (.lit (-1)) (.wrap .u64 (.var 0)))], 1)])) (.leaf (.int .u64 [([.var 0], 1)])), [], []⟩
def magS : Summ := ⟨magA, [ivT .i64], .test (.le [([], 1), ([.var 0], 1)]) (.leaf (.int .u64 [([.var 0], -1)])) (.leaf (.int .u64 [([.var 0], 1)])), [], []⟩
theorem wrap64u (n : Int) : IntKind.u64.wrap n = n % 18446744073709551616 := by simp [IntKind.wrap, IntKind.bits, IntKind.signed]
theorem magS_exch : Exch magE magS := ⟨⟨rfl, rfl, rfl, rfl⟩, rfl, fun D _ hk => by
  have a := hk 0 _ rfl
  obtain ⟨a1, a2⟩ := a
  simp only [ivT] at a1 a2
  simp only [magE, magS, ev_le, ev_one, Poly.ev, Mono.ev, E.ev, wrap64u]
  by_cases h : 1 * 1 + (1 * (D.env.v 0 * 1) + 0) ≤ 0
  · simp only [h, if_true]
    congr 2
    omega
  · simp only [h, if_false]⟩

/-! ### Products with a limit: surd.product, factor.times -/
def ints2A : List SV := [.int .i64 [([.var 0], 1)], .int .i64 [([.var 1], 1)]]
def prodT (L : Int) : STree := .test (.le [([], -L), ([.var 0, .var 1], 1)]) (.test (.le [([], -L), ([.var 0, .var 1], -1)]) (.leaf (.int .i64 [([.var 0, .var 1], 1)])) (.leaf (.int .i64 [([], L + 1)]))) (.leaf (.int .i64 [([], L + 1)]))
def prod60K : List Iv := [ivT .i64, ivT .i64]
def prod59K : List Iv := [⟨-576460752303423488, 576460752303423488⟩, ⟨-576460752303423488, 576460752303423488⟩]
def prod60S : Summ := ⟨ints2A, prod60K, prodT 1152921504606846976, [], []⟩
def prod59S : Summ := ⟨ints2A, prod59K, prodT 576460752303423488, [], []⟩
def prod60E : Summ := ⟨ints2A, prod60K, (.test (.le [([], (Int.ofNat (nat_lit 1))), ([(.var (nat_lit 0))], (Int.ofNat (nat_lit 1)))])
  (.test (.le [([], (Int.ofNat (nat_lit 1))), ([(.var (nat_lit 1))], (Int.ofNat (nat_lit 1)))])
  (.test (.le [([], (Int.ofNat (nat_lit 1))), ([(.fdiv (.mul (.var (nat_lit 0)) (.var (nat_lit 1))) (.lit (Int.ofNat (nat_lit 18446744073709551616))))], (Int.negSucc (nat_lit 0)))])
  (.leaf (.int .i64 [([], (Int.ofNat (nat_lit 1152921504606846977)))]))
  (.test (.le [([], (Int.ofNat (nat_lit 1152921504606846977))), ([(.wrap .u64 (.mul (.var (nat_lit 0)) (.var (nat_lit 1))))], (Int.negSucc (nat_lit 0)))])
  (.leaf (.int .i64 [([], (Int.ofNat (nat_lit 1152921504606846977)))]))
  (.leaf (.int .i64 [([(.wrap .u64 (.mul (.var (nat_lit 0)) (.var (nat_lit 1))))], (Int.ofNat (nat_lit 1)))]))))
  (.test (.le [([], (Int.ofNat (nat_lit 1))), ([(.fdiv (.mul (.lit (Int.negSucc (nat_lit 0))) (.mul (.var (nat_lit 0)) (.var (nat_lit 1)))) (.lit (Int.ofNat (nat_lit 18446744073709551616))))], (Int.negSucc (nat_lit 0)))])
  (.leaf (.int .i64 [([], (Int.ofNat (nat_lit 1152921504606846977)))]))
  (.test (.le [([], (Int.ofNat (nat_lit 1152921504606846977))), ([(.wrap .u64 (.mul (.lit (Int.negSucc (nat_lit 0))) (.mul (.var (nat_lit 0)) (.var (nat_lit 1)))))], (Int.negSucc (nat_lit 0)))])
  (.leaf (.int .i64 [([], (Int.ofNat (nat_lit 1152921504606846977)))]))
  (.leaf (.int .i64 [([(.wrap .u64 (.mul (.lit (Int.negSucc (nat_lit 0))) (.mul (.var (nat_lit 0)) (.var (nat_lit 1)))))], (Int.negSucc (nat_lit 0)))])))))
  (.test (.le [([], (Int.ofNat (nat_lit 1))), ([(.var (nat_lit 1))], (Int.ofNat (nat_lit 1)))])
  (.test (.le [([], (Int.ofNat (nat_lit 1))), ([(.fdiv (.mul (.lit (Int.negSucc (nat_lit 0))) (.mul (.var (nat_lit 0)) (.var (nat_lit 1)))) (.lit (Int.ofNat (nat_lit 18446744073709551616))))], (Int.negSucc (nat_lit 0)))])
  (.leaf (.int .i64 [([], (Int.ofNat (nat_lit 1152921504606846977)))]))
  (.test (.le [([], (Int.ofNat (nat_lit 1152921504606846977))), ([(.wrap .u64 (.mul (.lit (Int.negSucc (nat_lit 0))) (.mul (.var (nat_lit 0)) (.var (nat_lit 1)))))], (Int.negSucc (nat_lit 0)))])
  (.leaf (.int .i64 [([], (Int.ofNat (nat_lit 1152921504606846977)))]))
  (.leaf (.int .i64 [([(.wrap .u64 (.mul (.lit (Int.negSucc (nat_lit 0))) (.mul (.var (nat_lit 0)) (.var (nat_lit 1)))))], (Int.negSucc (nat_lit 0)))]))))
  (.test (.le [([], (Int.ofNat (nat_lit 1))), ([(.fdiv (.mul (.var (nat_lit 0)) (.var (nat_lit 1))) (.lit (Int.ofNat (nat_lit 18446744073709551616))))], (Int.negSucc (nat_lit 0)))])
  (.leaf (.int .i64 [([], (Int.ofNat (nat_lit 1152921504606846977)))]))
  (.test (.le [([], (Int.ofNat (nat_lit 1152921504606846977))), ([(.wrap .u64 (.mul (.var (nat_lit 0)) (.var (nat_lit 1))))], (Int.negSucc (nat_lit 0)))])
  (.leaf (.int .i64 [([], (Int.ofNat (nat_lit 1152921504606846977)))]))
  (.leaf (.int .i64 [([(.wrap .u64 (.mul (.var (nat_lit 0)) (.var (nat_lit 1))))], (Int.ofNat (nat_lit 1)))])))))), [], []⟩
def prod59E : Summ := ⟨ints2A, prod59K, (.test (.le [([], (Int.ofNat (nat_lit 1))), ([(.var (nat_lit 1))], (Int.ofNat (nat_lit 2)))])
  (.test (.le [([], (Int.ofNat (nat_lit 1))), ([(.var (nat_lit 0))], (Int.ofNat (nat_lit 2)))])
  (.test (.le [([], (Int.ofNat (nat_lit 1))), ([(.fdiv (.mul (.var (nat_lit 0)) (.var (nat_lit 1))) (.lit (Int.ofNat (nat_lit 18446744073709551616))))], (Int.negSucc (nat_lit 0)))])
  (.leaf (.int .i64 [([], (Int.ofNat (nat_lit 576460752303423489)))]))
  (.test (.le [([], (Int.ofNat (nat_lit 576460752303423489))), ([(.wrap .u64 (.mul (.var (nat_lit 0)) (.var (nat_lit 1))))], (Int.negSucc (nat_lit 0)))])
  (.leaf (.int .i64 [([], (Int.ofNat (nat_lit 576460752303423489)))]))
  (.leaf (.int .i64 [([(.wrap .u64 (.mul (.var (nat_lit 0)) (.var (nat_lit 1))))], (Int.ofNat (nat_lit 1)))]))))
  (.test (.le [([], (Int.ofNat (nat_lit 1))), ([(.fdiv (.mul (.lit (Int.negSucc (nat_lit 0))) (.mul (.var (nat_lit 0)) (.var (nat_lit 1)))) (.lit (Int.ofNat (nat_lit 18446744073709551616))))], (Int.negSucc (nat_lit 0)))])
  (.leaf (.int .i64 [([], (Int.ofNat (nat_lit 576460752303423489)))]))
  (.test (.le [([], (Int.ofNat (nat_lit 576460752303423489))), ([(.wrap .u64 (.mul (.lit (Int.negSucc (nat_lit 0))) (.mul (.var (nat_lit 0)) (.var (nat_lit 1)))))], (Int.negSucc (nat_lit 0)))])
  (.leaf (.int .i64 [([], (Int.ofNat (nat_lit 576460752303423489)))]))
  (.leaf (.int .i64 [([(.wrap .u64 (.mul (.lit (Int.negSucc (nat_lit 0))) (.mul (.var (nat_lit 0)) (.var (nat_lit 1)))))], (Int.negSucc (nat_lit 0)))])))))
  (.test (.le [([], (Int.ofNat (nat_lit 1))), ([(.var (nat_lit 0))], (Int.ofNat (nat_lit 2)))])
  (.test (.le [([], (Int.ofNat (nat_lit 1))), ([(.fdiv (.mul (.lit (Int.negSucc (nat_lit 0))) (.mul (.var (nat_lit 0)) (.var (nat_lit 1)))) (.lit (Int.ofNat (nat_lit 18446744073709551616))))], (Int.negSucc (nat_lit 0)))])
  (.leaf (.int .i64 [([], (Int.ofNat (nat_lit 576460752303423489)))]))
  (.test (.le [([], (Int.ofNat (nat_lit 576460752303423489))), ([(.wrap .u64 (.mul (.lit (Int.negSucc (nat_lit 0))) (.mul (.var (nat_lit 0)) (.var (nat_lit 1)))))], (Int.negSucc (nat_lit 0)))])
  (.leaf (.int .i64 [([], (Int.ofNat (nat_lit 576460752303423489)))]))
  (.leaf (.int .i64 [([(.wrap .u64 (.mul (.lit (Int.negSucc (nat_lit 0))) (.mul (.var (nat_lit 0)) (.var (nat_lit 1)))))], (Int.negSucc (nat_lit 0)))]))))
  (.test (.le [([], (Int.ofNat (nat_lit 1))), ([(.fdiv (.mul (.var (nat_lit 0)) (.var (nat_lit 1))) (.lit (Int.ofNat (nat_lit 18446744073709551616))))], (Int.negSucc (nat_lit 0)))])
  (.leaf (.int .i64 [([], (Int.ofNat (nat_lit 576460752303423489)))]))
  (.test (.le [([], (Int.ofNat (nat_lit 576460752303423489))), ([(.wrap .u64 (.mul (.var (nat_lit 0)) (.var (nat_lit 1))))], (Int.negSucc (nat_lit 0)))])
  (.leaf (.int .i64 [([], (Int.ofNat (nat_lit 576460752303423489)))]))
  (.leaf (.int .i64 [([(.wrap .u64 (.mul (.var (nat_lit 0)) (.var (nat_lit 1))))], (Int.ofNat (nat_lit 1)))])))))), [], []⟩
theorem sign_mul2 (x y : Int) : (0 ≤ x → 0 ≤ y → 0 ≤ x * y) ∧ (x ≤ 0 → y ≤ 0 → 0 ≤ x * y) ∧ (0 ≤ x → y ≤ 0 → x * y ≤ 0) ∧ (x ≤ 0 → 0 ≤ y → x * y ≤ 0) :=
  ⟨Int.mul_nonneg, Int.mul_nonneg_of_nonpos_of_nonpos, Int.mul_nonpos_of_nonneg_of_nonpos, Int.mul_nonpos_of_nonpos_of_nonneg⟩
theorem ofNat_lit (n : Nat) : Int.ofNat n = (n : Int) := rfl
theorem prod60S_exch : Exch prod60E prod60S := ⟨⟨rfl, rfl, rfl, rfl⟩, rfl, fun D _ _ => by
  have hs := sign_mul2 (D.env.v 0) (D.env.v 1)
  simp only [prod60E, prod60S, prodT, ev_le, ev_one, Poly.ev, Mono.ev, E.ev, wrap64u, ofNat_lit, Int.mul_one, Int.negSucc_eq]
  generalize D.env.v 0 * D.env.v 1 = p at *
  rw [fdiv_pos (by decide), fdiv_pos (by decide)]
  repeat' split
  all_goals first | rfl | (congr 2 <;> omega) | (exfalso; omega)⟩
theorem prod59S_exch : Exch prod59E prod59S := ⟨⟨rfl, rfl, rfl, rfl⟩, rfl, fun D _ _ => by
  have hs := sign_mul2 (D.env.v 0) (D.env.v 1)
  simp only [prod59E, prod59S, prodT, ev_le, ev_one, Poly.ev, Mono.ev, E.ev, wrap64u, ofNat_lit, Int.mul_one, Int.negSucc_eq]
  generalize D.env.v 0 * D.env.v 1 = p at *
  rw [fdiv_pos (by decide), fdiv_pos (by decide)]
  repeat' split
  all_goals first | rfl | (congr 2 <;> omega) | (exfalso; omega)⟩

/-! ### surd.Sign -/
def surdA : List SV := [.agg [.int .i64 [([.var 0], 1)], .int .i64 [([.var 1], 1)]]]
def sgnE : Summ := ⟨surdA, [ivT .i64, ivT .i64], (.test (.le [([], (Int.ofNat (nat_lit 1))), ([(.var (nat_lit 0))], (Int.ofNat (nat_lit 1)))])
  (.test (.le [([], (Int.ofNat (nat_lit 1))), ([(.var (nat_lit 1))], (Int.ofNat (nat_lit 1)))])
  (.leaf (.int .i64 [([], (Int.negSucc (nat_lit 0)))]))
  (.test (.le [([], (Int.ofNat (nat_lit 1))), ([(.var (nat_lit 1))], (Int.negSucc (nat_lit 0)))])
  (.test (.le [([], (Int.ofNat (nat_lit 1))), ([(.fdiv (.mul (.lit (Int.ofNat (nat_lit 3))) (.wrap .u64 (.mul (.var (nat_lit 1)) (.var (nat_lit 1))))) (.lit (Int.ofNat (nat_lit 18446744073709551616))))], (Int.negSucc (nat_lit 0))), ([(.fdiv (.mul (.var (nat_lit 0)) (.var (nat_lit 0))) (.lit (Int.ofNat (nat_lit 18446744073709551616))))], (Int.ofNat (nat_lit 1))), ([(.fdiv (.mul (.var (nat_lit 1)) (.var (nat_lit 1))) (.lit (Int.ofNat (nat_lit 18446744073709551616))))], (Int.negSucc (nat_lit 2)))])
  (.leaf (.int .i64 [([], (Int.ofNat (nat_lit 1)))]))
  (.test (.le [([], (Int.ofNat (nat_lit 1))), ([(.fdiv (.mul (.lit (Int.ofNat (nat_lit 3))) (.wrap .u64 (.mul (.var (nat_lit 1)) (.var (nat_lit 1))))) (.lit (Int.ofNat (nat_lit 18446744073709551616))))], (Int.ofNat (nat_lit 1))), ([(.fdiv (.mul (.var (nat_lit 0)) (.var (nat_lit 0))) (.lit (Int.ofNat (nat_lit 18446744073709551616))))], (Int.negSucc (nat_lit 0))), ([(.fdiv (.mul (.var (nat_lit 1)) (.var (nat_lit 1))) (.lit (Int.ofNat (nat_lit 18446744073709551616))))], (Int.ofNat (nat_lit 3)))])
  (.leaf (.int .i64 [([], (Int.negSucc (nat_lit 0)))]))
  (.test (.le [([], (Int.ofNat (nat_lit 1))), ([(.wrap .u64 (.mul (.lit (Int.ofNat (nat_lit 3))) (.wrap .u64 (.mul (.var (nat_lit 1)) (.var (nat_lit 1))))))], (Int.negSucc (nat_lit 0))), ([(.wrap .u64 (.mul (.var (nat_lit 0)) (.var (nat_lit 0))))], (Int.ofNat (nat_lit 1)))])
  (.leaf (.int .i64 [([], (Int.ofNat (nat_lit 1)))]))
  (.test (.le [([], (Int.ofNat (nat_lit 1))), ([(.wrap .u64 (.mul (.lit (Int.ofNat (nat_lit 3))) (.wrap .u64 (.mul (.var (nat_lit 1)) (.var (nat_lit 1))))))], (Int.ofNat (nat_lit 1))), ([(.wrap .u64 (.mul (.var (nat_lit 0)) (.var (nat_lit 0))))], (Int.negSucc (nat_lit 0)))])
  (.leaf (.int .i64 [([], (Int.negSucc (nat_lit 0)))]))
  (.leaf (.int .i64 []))))))
  (.leaf (.int .i64 [([], (Int.negSucc (nat_lit 0)))]))))
  (.test (.le [([], (Int.ofNat (nat_lit 1))), ([(.var (nat_lit 0))], (Int.negSucc (nat_lit 0)))])
  (.test (.le [([], (Int.ofNat (nat_lit 1))), ([(.var (nat_lit 1))], (Int.ofNat (nat_lit 1)))])
  (.test (.le [([], (Int.ofNat (nat_lit 1))), ([(.fdiv (.mul (.lit (Int.ofNat (nat_lit 3))) (.wrap .u64 (.mul (.var (nat_lit 1)) (.var (nat_lit 1))))) (.lit (Int.ofNat (nat_lit 18446744073709551616))))], (Int.negSucc (nat_lit 0))), ([(.fdiv (.mul (.var (nat_lit 0)) (.var (nat_lit 0))) (.lit (Int.ofNat (nat_lit 18446744073709551616))))], (Int.ofNat (nat_lit 1))), ([(.fdiv (.mul (.var (nat_lit 1)) (.var (nat_lit 1))) (.lit (Int.ofNat (nat_lit 18446744073709551616))))], (Int.negSucc (nat_lit 2)))])
  (.leaf (.int .i64 [([], (Int.negSucc (nat_lit 0)))]))
  (.test (.le [([], (Int.ofNat (nat_lit 1))), ([(.fdiv (.mul (.lit (Int.ofNat (nat_lit 3))) (.wrap .u64 (.mul (.var (nat_lit 1)) (.var (nat_lit 1))))) (.lit (Int.ofNat (nat_lit 18446744073709551616))))], (Int.ofNat (nat_lit 1))), ([(.fdiv (.mul (.var (nat_lit 0)) (.var (nat_lit 0))) (.lit (Int.ofNat (nat_lit 18446744073709551616))))], (Int.negSucc (nat_lit 0))), ([(.fdiv (.mul (.var (nat_lit 1)) (.var (nat_lit 1))) (.lit (Int.ofNat (nat_lit 18446744073709551616))))], (Int.ofNat (nat_lit 3)))])
  (.leaf (.int .i64 [([], (Int.ofNat (nat_lit 1)))]))
  (.test (.le [([], (Int.ofNat (nat_lit 1))), ([(.wrap .u64 (.mul (.lit (Int.ofNat (nat_lit 3))) (.wrap .u64 (.mul (.var (nat_lit 1)) (.var (nat_lit 1))))))], (Int.negSucc (nat_lit 0))), ([(.wrap .u64 (.mul (.var (nat_lit 0)) (.var (nat_lit 0))))], (Int.ofNat (nat_lit 1)))])
  (.leaf (.int .i64 [([], (Int.negSucc (nat_lit 0)))]))
  (.test (.le [([], (Int.ofNat (nat_lit 1))), ([(.wrap .u64 (.mul (.lit (Int.ofNat (nat_lit 3))) (.wrap .u64 (.mul (.var (nat_lit 1)) (.var (nat_lit 1))))))], (Int.ofNat (nat_lit 1))), ([(.wrap .u64 (.mul (.var (nat_lit 0)) (.var (nat_lit 0))))], (Int.negSucc (nat_lit 0)))])
  (.leaf (.int .i64 [([], (Int.ofNat (nat_lit 1)))]))
  (.leaf (.int .i64 []))))))
  (.test (.le [([], (Int.ofNat (nat_lit 1))), ([(.var (nat_lit 1))], (Int.negSucc (nat_lit 0)))])
  (.leaf (.int .i64 [([], (Int.ofNat (nat_lit 1)))]))
  (.leaf (.int .i64 [([], (Int.ofNat (nat_lit 1)))]))))
  (.test (.le [([], (Int.ofNat (nat_lit 1))), ([(.var (nat_lit 1))], (Int.ofNat (nat_lit 1)))])
  (.leaf (.int .i64 [([], (Int.negSucc (nat_lit 0)))]))
  (.test (.le [([], (Int.ofNat (nat_lit 1))), ([(.var (nat_lit 1))], (Int.negSucc (nat_lit 0)))])
  (.leaf (.int .i64 [([], (Int.ofNat (nat_lit 1)))]))
  (.leaf (.int .i64 [])))))), [], []⟩
def sgnS : Summ := ⟨surdA, [ivT .i64, ivT .i64], .leaf (.int .i64 [([.app 0 (.var 0) (.var 1) (.lit 0)], 1)]), [], []⟩
theorem sq_abs (x : Int) : (0 ≤ x → x * x.natAbs = x * x) ∧ (x ≤ 0 → x * x.natAbs = -(x * x)) ∧ 0 ≤ x * x ∧ (x ≠ 0 → 1 ≤ x * x) := by
  refine ⟨fun h => by rw [show ((x.natAbs : Nat) : Int) = x by omega], fun h => by rw [show ((x.natAbs : Nat) : Int) = -x by omega, Int.mul_neg], mul_self_nonneg' x, fun h => ?_⟩
  have : x * x ≠ 0 := fun e => by rcases Int.mul_eq_zero.1 e with e | e <;> exact h e
  have := mul_self_nonneg' x
  omega
theorem sign_cases (n : Int) : (0 < n → n.sign = 1) ∧ (n < 0 → n.sign = -1) ∧ (n = 0 → n.sign = 0) :=
  ⟨Int.sign_eq_one_of_pos, Int.sign_eq_neg_one_of_neg, fun h => by rw [h]; rfl⟩
theorem sgnS_exch : Exch sgnE sgnS := ⟨⟨rfl, rfl, rfl, rfl⟩, rfl, fun D hf _ => by
  simp only [sgnE, sgnS, ev_le, ev_one, Poly.ev, Mono.ev, E.ev, hf, stdF, ssign, wrap64u, ofNat_lit, Int.mul_one, Int.negSucc_eq]
  have ha := sq_abs (D.env.v 0)
  have hb := sq_abs (D.env.v 1)
  generalize D.env.v 0 * (D.env.v 0).natAbs = a at *
  generalize D.env.v 1 * (D.env.v 1).natAbs = b at *
  generalize D.env.v 0 * D.env.v 0 = p at *
  generalize D.env.v 1 * D.env.v 1 = q at *
  have hc := sign_cases (a + 3 * b)
  generalize (a + 3 * b).sign = s at *
  simp only [fdiv_pos (show (0 : Int) ≤ ((18446744073709551616 : Nat) : Int) by decide)]
  repeat' split
  all_goals first | rfl | (congr 2 <;> omega) | (exfalso; omega)⟩

end Go.Sym

/- SymGo, numbers: the sign of a + b*sqrt(3) respects products, sums and norms. -/
import Derived.Test.YtjghifocfjbmcabDoorSymM
namespace Go.Sym

/-- 3 divides a, where it divides the square. -/
theorem three_dvd {a : Int} (h : 3 ∣ a * a) : 3 ∣ a := by
  obtain ⟨k, hk⟩ := h
  have h1 := Int.mul_ediv_add_emod a 3
  have h2 : a % 3 = 0 ∨ a % 3 = 1 ∨ a % 3 = 2 := by omega
  generalize a / 3 = q at h1
  rcases h2 with e | e | e
  · exact ⟨q, by omega⟩
  · exfalso
    rw [e] at h1
    have : a * a = 3 * (3 * (q * q) + 2 * q) + 1 := by rw [← h1]; grind
    omega
  · exfalso
    rw [e] at h1
    have : a * a = 3 * (3 * (q * q) + 4 * q + 1) + 1 := by rw [← h1]; grind
    omega
/-- The root of 3 is no quotient. -/
theorem irrational : ∀ (n : Nat) (a b : Int), b.natAbs ≤ n → a * a = 3 * (b * b) → a = 0 ∧ b = 0
  | 0, a, b, hb, h => by
    have hb : b = 0 := by omega
    subst hb
    have : a * a = 0 := by omega
    rcases Int.mul_eq_zero.1 this with h | h <;> exact ⟨h, rfl⟩
  | n + 1, a, b, hb, h => by
    obtain ⟨c, rfl⟩ := three_dvd (a := a) ⟨b * b, h⟩
    have h1 : b * b = 3 * (c * c) := by
      have : 3 * (b * b) = 3 * (3 * (c * c)) := by rw [← h]; grind
      omega
    obtain ⟨d, rfl⟩ := three_dvd (a := b) ⟨c * c, h1⟩
    have h2 : c * c = 3 * (d * d) := by
      have : 3 * (c * c) = 3 * (3 * (d * d)) := by rw [← h1]; grind
      omega
    obtain ⟨rfl, rfl⟩ := irrational n c d (by omega) h2
    exact ⟨rfl, rfl⟩
theorem sq_eq {a b : Int} (h : a * a = 3 * (b * b)) : a = 0 ∧ b = 0 := irrational _ a b (Nat.le_refl _) h
theorem sign_sq (a : Int) : (0 < a → a.sign = 1) ∧ (a < 0 → a.sign = -1) ∧ (a = 0 → a.sign = 0) := sign_cases a
/-- The sign, by the sign of the norm. -/
theorem ssign_norm (a b : Int) : (3 * (b * b) < a * a → ssign a b = a.sign) ∧ (a * a < 3 * (b * b) → ssign a b = b.sign) ∧ (a * a = 3 * (b * b) → a = 0 ∧ b = 0 ∧ ssign a b = 0) := by
  have ha := sq_abs a
  have hb := sq_abs b
  have sa := sign_cases a
  have sb := sign_cases b
  refine ⟨fun h => ?_, fun h => ?_, fun h => ?_⟩
  · unfold ssign
    generalize a * (a.natAbs : Int) = x at *
    generalize b * (b.natAbs : Int) = y at *
    generalize a * a = p at *
    generalize b * b = q at *
    have hc := sign_cases (x + 3 * y)
    generalize (x + 3 * y).sign = s at *
    generalize a.sign = u at *
    generalize b.sign = v at *
    rcases Int.lt_trichotomy a 0 with g | g | g <;> rcases Int.lt_trichotomy b 0 with f | f | f <;> omega
  · unfold ssign
    generalize a * (a.natAbs : Int) = x at *
    generalize b * (b.natAbs : Int) = y at *
    generalize a * a = p at *
    generalize b * b = q at *
    have hc := sign_cases (x + 3 * y)
    generalize (x + 3 * y).sign = s at *
    generalize a.sign = u at *
    generalize b.sign = v at *
    rcases Int.lt_trichotomy a 0 with g | g | g <;> rcases Int.lt_trichotomy b 0 with f | f | f <;> omega
  · obtain ⟨rfl, rfl⟩ := sq_eq h
    exact ⟨rfl, rfl, rfl⟩
theorem norm_cases (a b : Int) : (3 * (b * b) < a * a ∧ a ≠ 0 ∧ ssign a b = a.sign) ∨ (a * a < 3 * (b * b) ∧ b ≠ 0 ∧ ssign a b = b.sign) ∨ (a = 0 ∧ b = 0 ∧ ssign a b = 0) := by
  have h := ssign_norm a b
  have ha := (sq_abs a).2.2.1
  have hb := (sq_abs b).2.2.1
  rcases Int.lt_trichotomy (a * a) (3 * (b * b)) with g | g | g
  · refine .inr (.inl ⟨g, ?_, h.2.1 g⟩)
    rintro rfl
    simp only [Int.mul_zero] at g
    omega
  · exact .inr (.inr (h.2.2 g))
  · refine .inl ⟨g, ?_, h.1 g⟩
    rintro rfl
    simp only [Int.mul_zero] at g
    omega
theorem ssign_le (a b : Int) : -1 ≤ ssign a b ∧ ssign a b ≤ 1 := sign_le _
theorem ssign_zero {a b : Int} : ssign a b = 0 ↔ a = 0 ∧ b = 0 := by
  constructor
  · intro h
    rcases norm_cases a b with ⟨_, h1, h2⟩ | ⟨_, h1, h2⟩ | ⟨h1, h2, _⟩
    · rw [h] at h2; exact absurd (Int.sign_eq_zero_iff_zero.1 h2.symm) h1
    · rw [h] at h2; exact absurd (Int.sign_eq_zero_iff_zero.1 h2.symm) h1
    · exact ⟨h1, h2⟩
  · rintro ⟨rfl, rfl⟩; rfl
/-- The greater of two decides the sign of the sum. -/
theorem sign_dom {x y : Int} (h : y * y < x * x) : (x + y).sign = x.sign := by
  have hx := sign_cases x
  have hs := sign_cases (x + y)
  have h1 : y < x ∧ -y < x ∨ x < y ∧ x < -y := by
    by_cases g : 0 < x
    · refine .inl ⟨Int.not_le.1 fun e => ?_, Int.not_le.1 fun e => ?_⟩
      · have := Int.mul_le_mul e e (by omega) (by omega); omega
      · have := Int.mul_le_mul e e (by omega) (by omega)
        rw [Int.neg_mul_neg] at this; omega
    · refine .inr ⟨Int.not_le.1 fun e => ?_, Int.not_le.1 fun e => ?_⟩
      · have : (-x) * (-x) ≤ (-y) * (-y) := Int.mul_le_mul (by omega) (by omega) (by omega) (by omega)
        rw [Int.neg_mul_neg, Int.neg_mul_neg] at this; omega
      · have : (-x) * (-x) ≤ y * y := Int.mul_le_mul (by omega) (by omega) (by omega) (by omega)
        rw [Int.neg_mul_neg] at this; omega
  generalize (x + y).sign = s at *
  generalize x.sign = u at *
  omega
theorem prod_lt {p q r s : Int} (h1 : 0 ≤ p) (h2 : p < q) (h3 : 0 ≤ r) (h4 : r < s) : p * r < q * s := by
  have e1 : p * r ≤ p * s := Int.mul_le_mul_of_nonneg_left (by omega) h1
  have e2 : p * s < q * s := Int.mul_lt_mul_of_pos_right h2 (by omega)
  omega
/-- The sign of a product. -/
theorem ssign_mul (a b c d : Int) : ssign (a * c + 3 * (b * d)) (a * d + b * c) = ssign a b * ssign c d := by
  have hn : (a*c+3*(b*d))*(a*c+3*(b*d)) - 3*((a*d+b*c)*(a*d+b*c)) = (a*a-3*(b*b))*(c*c-3*(d*d)) := by grind
  have hb := mul_self_nonneg' b
  have hd := mul_self_nonneg' d
  have ha := mul_self_nonneg' a
  have hc := mul_self_nonneg' c
  have key := ssign_norm (a * c + 3 * (b * d)) (a * d + b * c)
  rcases norm_cases a b with ⟨h1, h1n, h2⟩ | ⟨h1, h1n, h2⟩ | ⟨rfl, rfl, h2⟩
  · rcases norm_cases c d with ⟨h3, h3n, h4⟩ | ⟨h3, h3n, h4⟩ | ⟨rfl, rfl, h4⟩
    · have h5 : 0 < (a*a-3*(b*b))*(c*c-3*(d*d)) := Int.mul_pos (by omega) (by omega)
      rw [key.1 (by omega), h2, h4, sign_dom, Int.sign_mul]
      have := prod_lt (p := 3 * (b * b)) (q := a * a) (r := 3 * (d * d)) (s := c * c) (by omega) h1 (by omega) h3
      have e1 : 3 * (b * d) * (3 * (b * d)) = 3 * (b * b) * (3 * (d * d)) := by grind
      have e2 : a * c * (a * c) = a * a * (c * c) := by grind
      rw [e1, e2]; exact this
    · have h5 : (a*a-3*(b*b))*(c*c-3*(d*d)) < 0 := Int.mul_neg_of_pos_of_neg (by omega) (by omega)
      rw [key.2.1 (by omega), h2, h4, sign_dom, Int.sign_mul]
      have := prod_lt (p := 3 * (b * b)) (q := a * a) (r := c * c) (s := 3 * (d * d)) (by omega) h1 hc h3
      have e1 : b * c * (b * c) = b * b * (c * c) := by grind
      have e2 : a * d * (a * d) = a * a * (d * d) := by grind
      have e3 : 3 * (b * b) * (c * c) = 3 * (b * b * (c * c)) := by grind
      have e4 : a * a * (3 * (d * d)) = 3 * (a * a * (d * d)) := by grind
      rw [e1, e2]
      omega
    · simp [ssign]
  · rcases norm_cases c d with ⟨h3, h3n, h4⟩ | ⟨h3, h3n, h4⟩ | ⟨rfl, rfl, h4⟩
    · have h5 : (a*a-3*(b*b))*(c*c-3*(d*d)) < 0 := Int.mul_neg_of_neg_of_pos (by omega) (by omega)
      rw [key.2.1 (by omega), h2, h4, Int.add_comm, sign_dom, Int.sign_mul]
      have := prod_lt (p := a * a) (q := 3 * (b * b)) (r := 3 * (d * d)) (s := c * c) ha h1 (by omega) h3
      have e1 : b * c * (b * c) = b * b * (c * c) := by grind
      have e2 : a * d * (a * d) = a * a * (d * d) := by grind
      have e3 : 3 * (b * b) * (c * c) = 3 * (b * b * (c * c)) := by grind
      have e4 : a * a * (3 * (d * d)) = 3 * (a * a * (d * d)) := by grind
      rw [e1, e2]
      omega
    · have h5 : 0 < (a*a-3*(b*b))*(c*c-3*(d*d)) := Int.mul_pos_of_neg_of_neg (by omega) (by omega)
      have h6 := prod_lt (p := a * a) (q := 3 * (b * b)) (r := c * c) (s := 3 * (d * d)) ha h1 hc h3
      have e1 : 3 * (b * d) * (3 * (b * d)) = 3 * (b * b) * (3 * (d * d)) := by grind
      have e2 : a * c * (a * c) = a * a * (c * c) := by grind
      rw [key.1 (by omega), h2, h4, Int.add_comm, sign_dom (by rw [e1, e2]; exact h6), Int.sign_mul, Int.sign_mul]
      exact Int.one_mul _
    · simp [ssign]
  · simp [ssign]
/-- Raising the first part does not lower the sign. -/
theorem sq_mono {a c : Int} (h : a ≤ c) : a * a.natAbs ≤ c * c.natAbs := by
  have ha := sq_abs a
  have hc := sq_abs c
  have h1 : (0 ≤ a → a * a ≤ c * c) ∧ (c ≤ 0 → c * c ≤ a * a) := ⟨fun g => Int.mul_le_mul h h g (by omega), fun g => by
    have : (-c) * (-c) ≤ (-a) * (-a) := Int.mul_le_mul (by omega) (by omega) (by omega) (by omega)
    rw [Int.neg_mul_neg, Int.neg_mul_neg] at this; exact this⟩
  generalize a * (a.natAbs : Int) = x at *
  generalize c * (c.natAbs : Int) = y at *
  generalize a * a = p at *
  generalize c * c = q at *
  omega
theorem sign_mono {x y : Int} (h : x ≤ y) : x.sign ≤ y.sign := by
  have hx := sign_cases x
  have hy := sign_cases y
  generalize x.sign = u at *
  generalize y.sign = v at *
  omega
theorem ssign_mono {a c b : Int} (h : a ≤ c) : ssign a b ≤ ssign c b := sign_mono (by have := sq_mono h; omega)
theorem ssign_mono2 {a b d : Int} (h : b ≤ d) : ssign a b ≤ ssign a d := sign_mono (by have := sq_mono h; omega)
theorem ssign_int {n : Int} : ssign n 0 = n.sign := by
  unfold ssign
  have h := sq_abs n
  have hs := sign_cases n
  have ht := sign_cases (n * n.natAbs)
  simp only [Int.zero_mul, Int.mul_zero, Int.add_zero]
  generalize n * (n.natAbs : Int) = x at *
  generalize n * n = p at *
  generalize n.sign = u at *
  generalize x.sign = v at *
  omega
/-- The sum of two positive numbers is positive. -/
theorem ssign_add_pos {a b c d : Int} (h1 : ssign a b = 1) (h2 : ssign c d = 1) : ssign (a + c) (b + d) = 1 := by
  -- w: a positive number with (a, b) * w = n > 0
  have hw : ∃ e f n : Int, ssign e f = 1 ∧ 0 < n ∧ a * e + 3 * (b * f) = n ∧ a * f + b * e = 0 := by
    have hm := ssign_mul a b a (-b)
    have e1 : a * a + 3 * (b * -b) = a * a - 3 * (b * b) := by grind
    have e2 : a * -b + b * a = 0 := by grind
    rw [e1, e2, ssign_int, h1, Int.one_mul] at hm
    rcases norm_cases a b with ⟨g, _, _⟩ | ⟨g, _, _⟩ | ⟨_, _, g⟩
    · exact ⟨a, -b, a * a - 3 * (b * b), by rw [← hm]; exact Int.sign_eq_one_of_pos (by omega), by omega, e1, e2⟩
    · refine ⟨-a, - -b, 3 * (b * b) - a * a, ?_, by omega, by grind, by grind⟩
      rw [ssign_neg, ← hm, Int.sign_eq_neg_one_of_neg (by omega)]; rfl
    · omega
  obtain ⟨e, f, n, h3, h4, h5, h6⟩ := hw
  have hp := ssign_mul c d e f
  rw [h2, h3] at hp
  have hs := ssign_mul (a + c) (b + d) e f
  have e3 : (a + c) * e + 3 * ((b + d) * f) = (c * e + 3 * (d * f)) + n := by rw [← h5]; grind
  have e4 : (a + c) * f + (b + d) * e = c * f + d * e := by
    have : (a + c) * f + (b + d) * e = (a * f + b * e) + (c * f + d * e) := by grind
    rw [this, h6]; omega
  rw [e3, e4, h3, Int.mul_one] at hs
  rw [← hs]
  have := ssign_mono (a := c * e + 3 * (d * f)) (c := c * e + 3 * (d * f) + n) (b := c * f + d * e) (by omega)
  have h7 := (ssign_le (c * e + 3 * (d * f) + n) (c * f + d * e)).2
  have h8 : (1 : Int) * 1 = 1 := rfl
  omega
/-- The signs of two numbers and of their sum. -/
theorem ssign_add (a b c d : Int) : (0 ≤ ssign a b → 0 ≤ ssign c d → ssign a b ≤ ssign (a + c) (b + d) ∧ ssign c d ≤ ssign (a + c) (b + d)) ∧ (ssign a b ≤ 0 → ssign c d ≤ 0 → ssign (a + c) (b + d) ≤ ssign a b ∧ ssign (a + c) (b + d) ≤ ssign c d) := by
  have pos : ∀ a b c d : Int, 0 ≤ ssign a b → 0 ≤ ssign c d → ssign a b ≤ ssign (a + c) (b + d) ∧ ssign c d ≤ ssign (a + c) (b + d) := fun a b c d h1 h2 => by
    have l1 := ssign_le a b
    have l2 := ssign_le c d
    by_cases e1 : ssign a b = 0
    · obtain ⟨rfl, rfl⟩ := ssign_zero.1 e1
      rw [Int.zero_add, Int.zero_add, e1]
      omega
    · by_cases e2 : ssign c d = 0
      · obtain ⟨rfl, rfl⟩ := ssign_zero.1 e2
        rw [Int.add_zero, Int.add_zero, e2]
        omega
      · rw [ssign_add_pos (by omega) (by omega)]
        omega
  refine ⟨pos a b c d, fun h1 h2 => ?_⟩
  have := pos (-a) (-b) (-c) (-d) (by rw [ssign_neg]; omega) (by rw [ssign_neg]; omega)
  rw [← Int.neg_add, ← Int.neg_add, ssign_neg, ssign_neg, ssign_neg] at this
  omega
/-- The norm of a number of the twelfth roots of unity is not negative, and 0 for 0 alone. -/
theorem ssign_cyc (p q r s : Int) : 0 ≤ ssign (p*p + q*q + r*r + s*s + p*r + q*s) (p*q + q*r + r*s) ∧ (ssign (p*p + q*q + r*r + s*s + p*r + q*s) (p*q + q*r + r*s) = 0 → p = 0 ∧ q = 0 ∧ r = 0 ∧ s = 0) := by
  have h1 := ssign_mul (2 * p + r) q (2 * p + r) q
  have h2 := ssign_mul (q + 2 * s) r (q + 2 * s) r
  have h3 := ssign_add ((2 * p + r) * (2 * p + r) + 3 * (q * q)) ((2 * p + r) * q + q * (2 * p + r)) ((q + 2 * s) * (q + 2 * s) + 3 * (r * r)) ((q + 2 * s) * r + r * (q + 2 * s))
  have e1 : (2 * p + r) * (2 * p + r) + 3 * (q * q) + ((q + 2 * s) * (q + 2 * s) + 3 * (r * r)) = 4 * (p*p + q*q + r*r + s*s + p*r + q*s) := by grind
  have e2 : (2 * p + r) * q + q * (2 * p + r) + ((q + 2 * s) * r + r * (q + 2 * s)) = 4 * (p*q + q*r + r*s) := by grind
  rw [e1, e2, ssign_scale (by decide)] at h3
  generalize ssign (p*p + q*q + r*r + s*s + p*r + q*s) (p*q + q*r + r*s) = t at *
  have s1 := mul_self_nonneg' (ssign (2 * p + r) q)
  have s2 := mul_self_nonneg' (ssign (q + 2 * s) r)
  rw [← h1] at s1
  rw [← h2] at s2
  have h4 := h3.1 s1 s2
  refine ⟨by omega, fun h => ?_⟩
  have z1 : ssign (2 * p + r) q * ssign (2 * p + r) q = 0 := by rw [← h1]; omega
  have z2 : ssign (q + 2 * s) r * ssign (q + 2 * s) r = 0 := by rw [← h2]; omega
  have y1 : ssign (2 * p + r) q = 0 := by rcases Int.mul_eq_zero.1 z1 with h | h <;> exact h
  have y2 : ssign (q + 2 * s) r = 0 := by rcases Int.mul_eq_zero.1 z2 with h | h <;> exact h
  obtain ⟨x1, rfl⟩ := ssign_zero.1 y1
  obtain ⟨x2, rfl⟩ := ssign_zero.1 y2
  omega

/-! ### The powers of the root, by residue -/
def rootA : List SV := [.int .i64 [([.var 0], 1)]]
def rootE : Summ := ⟨rootA, [ivT .i64], (.test (.le [([], (Int.ofNat (nat_lit 1))), ([(.rem (.var (nat_lit 0)) (.lit (Int.ofNat (nat_lit 12))))], (Int.ofNat (nat_lit 1)))])
  (.test (.le [([], (Int.negSucc (nat_lit 5))), ([(.rem (.var (nat_lit 0)) (.lit (Int.ofNat (nat_lit 12))))], (Int.negSucc (nat_lit 0)))])
  (.test (.eq [([(.emod (nat_lit 6) (.var (nat_lit 0)))], (Int.ofNat (nat_lit 1)))])
  (.leaf (.agg [(.int .i64 [([], (Int.negSucc (nat_lit 0)))]), (.int .i64 []), (.int .i64 []), (.int .i64 [])]))
  (.test (.eq [([], (Int.negSucc (nat_lit 0))), ([(.emod (nat_lit 6) (.var (nat_lit 0)))], (Int.ofNat (nat_lit 1)))])
  (.leaf (.agg [(.int .i64 []), (.int .i64 [([], (Int.negSucc (nat_lit 0)))]), (.int .i64 []), (.int .i64 [])]))
  (.test (.eq [([], (Int.negSucc (nat_lit 1))), ([(.emod (nat_lit 6) (.var (nat_lit 0)))], (Int.ofNat (nat_lit 1)))])
  (.leaf (.agg [(.int .i64 []), (.int .i64 []), (.int .i64 [([], (Int.negSucc (nat_lit 0)))]), (.int .i64 [])]))
  (.test (.eq [([], (Int.negSucc (nat_lit 2))), ([(.emod (nat_lit 6) (.var (nat_lit 0)))], (Int.ofNat (nat_lit 1)))])
  (.leaf (.agg [(.int .i64 []), (.int .i64 []), (.int .i64 []), (.int .i64 [([], (Int.negSucc (nat_lit 0)))])]))
  (.test (.eq [([], (Int.negSucc (nat_lit 3))), ([(.emod (nat_lit 6) (.var (nat_lit 0)))], (Int.ofNat (nat_lit 1)))])
  (.leaf (.agg [(.int .i64 [([], (Int.ofNat (nat_lit 1)))]), (.int .i64 []), (.int .i64 [([], (Int.negSucc (nat_lit 0)))]), (.int .i64 [])]))
  (.leaf (.agg [(.int .i64 []), (.int .i64 [([], (Int.ofNat (nat_lit 1)))]), (.int .i64 []), (.int .i64 [([], (Int.negSucc (nat_lit 0)))])])))))))
  (.test (.eq [([], (Int.ofNat (nat_lit 11))), ([(.rem (.var (nat_lit 0)) (.lit (Int.ofNat (nat_lit 12))))], (Int.ofNat (nat_lit 1)))])
  (.leaf (.agg [(.int .i64 []), (.int .i64 [([], (Int.ofNat (nat_lit 1)))]), (.int .i64 []), (.int .i64 [])]))
  (.test (.eq [([], (Int.ofNat (nat_lit 10))), ([(.rem (.var (nat_lit 0)) (.lit (Int.ofNat (nat_lit 12))))], (Int.ofNat (nat_lit 1)))])
  (.leaf (.agg [(.int .i64 []), (.int .i64 []), (.int .i64 [([], (Int.ofNat (nat_lit 1)))]), (.int .i64 [])]))
  (.test (.eq [([], (Int.ofNat (nat_lit 9))), ([(.rem (.var (nat_lit 0)) (.lit (Int.ofNat (nat_lit 12))))], (Int.ofNat (nat_lit 1)))])
  (.leaf (.agg [(.int .i64 []), (.int .i64 []), (.int .i64 []), (.int .i64 [([], (Int.ofNat (nat_lit 1)))])]))
  (.test (.eq [([], (Int.ofNat (nat_lit 8))), ([(.rem (.var (nat_lit 0)) (.lit (Int.ofNat (nat_lit 12))))], (Int.ofNat (nat_lit 1)))])
  (.leaf (.agg [(.int .i64 [([], (Int.negSucc (nat_lit 0)))]), (.int .i64 []), (.int .i64 [([], (Int.ofNat (nat_lit 1)))]), (.int .i64 [])]))
  (.leaf (.agg [(.int .i64 []), (.int .i64 [([], (Int.negSucc (nat_lit 0)))]), (.int .i64 []), (.int .i64 [([], (Int.ofNat (nat_lit 1)))])])))))))
  (.test (.le [([], (Int.ofNat (nat_lit 6))), ([(.rem (.var (nat_lit 0)) (.lit (Int.ofNat (nat_lit 12))))], (Int.negSucc (nat_lit 0)))])
  (.test (.eq [([(.emod (nat_lit 6) (.var (nat_lit 0)))], (Int.ofNat (nat_lit 1)))])
  (.leaf (.agg [(.int .i64 [([], (Int.negSucc (nat_lit 0)))]), (.int .i64 []), (.int .i64 []), (.int .i64 [])]))
  (.test (.eq [([], (Int.negSucc (nat_lit 0))), ([(.emod (nat_lit 6) (.var (nat_lit 0)))], (Int.ofNat (nat_lit 1)))])
  (.leaf (.agg [(.int .i64 []), (.int .i64 [([], (Int.negSucc (nat_lit 0)))]), (.int .i64 []), (.int .i64 [])]))
  (.test (.eq [([], (Int.negSucc (nat_lit 1))), ([(.emod (nat_lit 6) (.var (nat_lit 0)))], (Int.ofNat (nat_lit 1)))])
  (.leaf (.agg [(.int .i64 []), (.int .i64 []), (.int .i64 [([], (Int.negSucc (nat_lit 0)))]), (.int .i64 [])]))
  (.test (.eq [([], (Int.negSucc (nat_lit 2))), ([(.emod (nat_lit 6) (.var (nat_lit 0)))], (Int.ofNat (nat_lit 1)))])
  (.leaf (.agg [(.int .i64 []), (.int .i64 []), (.int .i64 []), (.int .i64 [([], (Int.negSucc (nat_lit 0)))])]))
  (.test (.eq [([], (Int.negSucc (nat_lit 3))), ([(.emod (nat_lit 6) (.var (nat_lit 0)))], (Int.ofNat (nat_lit 1)))])
  (.leaf (.agg [(.int .i64 [([], (Int.ofNat (nat_lit 1)))]), (.int .i64 []), (.int .i64 [([], (Int.negSucc (nat_lit 0)))]), (.int .i64 [])]))
  (.leaf (.agg [(.int .i64 []), (.int .i64 [([], (Int.ofNat (nat_lit 1)))]), (.int .i64 []), (.int .i64 [([], (Int.negSucc (nat_lit 0)))])])))))))
  (.test (.eq [([(.rem (.var (nat_lit 0)) (.lit (Int.ofNat (nat_lit 12))))], (Int.ofNat (nat_lit 1)))])
  (.leaf (.agg [(.int .i64 [([], (Int.ofNat (nat_lit 1)))]), (.int .i64 []), (.int .i64 []), (.int .i64 [])]))
  (.test (.eq [([], (Int.negSucc (nat_lit 0))), ([(.rem (.var (nat_lit 0)) (.lit (Int.ofNat (nat_lit 12))))], (Int.ofNat (nat_lit 1)))])
  (.leaf (.agg [(.int .i64 []), (.int .i64 [([], (Int.ofNat (nat_lit 1)))]), (.int .i64 []), (.int .i64 [])]))
  (.test (.eq [([], (Int.negSucc (nat_lit 1))), ([(.rem (.var (nat_lit 0)) (.lit (Int.ofNat (nat_lit 12))))], (Int.ofNat (nat_lit 1)))])
  (.leaf (.agg [(.int .i64 []), (.int .i64 []), (.int .i64 [([], (Int.ofNat (nat_lit 1)))]), (.int .i64 [])]))
  (.test (.eq [([], (Int.negSucc (nat_lit 2))), ([(.rem (.var (nat_lit 0)) (.lit (Int.ofNat (nat_lit 12))))], (Int.ofNat (nat_lit 1)))])
  (.leaf (.agg [(.int .i64 []), (.int .i64 []), (.int .i64 []), (.int .i64 [([], (Int.ofNat (nat_lit 1)))])]))
  (.test (.eq [([], (Int.negSucc (nat_lit 3))), ([(.rem (.var (nat_lit 0)) (.lit (Int.ofNat (nat_lit 12))))], (Int.ofNat (nat_lit 1)))])
  (.leaf (.agg [(.int .i64 [([], (Int.negSucc (nat_lit 0)))]), (.int .i64 []), (.int .i64 [([], (Int.ofNat (nat_lit 1)))]), (.int .i64 [])]))
  (.leaf (.agg [(.int .i64 []), (.int .i64 [([], (Int.negSucc (nat_lit 0)))]), (.int .i64 []), (.int .i64 [([], (Int.ofNat (nat_lit 1)))])]))))))))), [], []⟩
def rootS : Summ := ⟨rootA, [ivT .i64], (.test (.le [([], (Int.ofNat (nat_lit 6))), ([(.emod (nat_lit 12) (.var (nat_lit 0)))], (Int.negSucc (nat_lit 0)))])
  (.test (.le [([], (Int.negSucc (nat_lit 7))), ([(.emod (nat_lit 12) (.var (nat_lit 0)))], (Int.ofNat (nat_lit 1)))])
  (.test (.le [([], (Int.negSucc (nat_lit 6))), ([(.emod (nat_lit 12) (.var (nat_lit 0)))], (Int.ofNat (nat_lit 1)))])
  (.test (.le [([], (Int.negSucc (nat_lit 5))), ([(.emod (nat_lit 12) (.var (nat_lit 0)))], (Int.ofNat (nat_lit 1)))])
  (.leaf (.agg [(.int .i64 [([], (Int.negSucc (nat_lit 0)))]), (.int .i64 []), (.int .i64 []), (.int .i64 [])]))
  (.leaf (.agg [(.int .i64 []), (.int .i64 [([], (Int.negSucc (nat_lit 0)))]), (.int .i64 []), (.int .i64 [])])))
  (.leaf (.agg [(.int .i64 []), (.int .i64 []), (.int .i64 [([], (Int.negSucc (nat_lit 0)))]), (.int .i64 [])])))
  (.test (.le [([], (Int.negSucc (nat_lit 9))), ([(.emod (nat_lit 12) (.var (nat_lit 0)))], (Int.ofNat (nat_lit 1)))])
  (.test (.le [([], (Int.negSucc (nat_lit 8))), ([(.emod (nat_lit 12) (.var (nat_lit 0)))], (Int.ofNat (nat_lit 1)))])
  (.leaf (.agg [(.int .i64 []), (.int .i64 []), (.int .i64 []), (.int .i64 [([], (Int.negSucc (nat_lit 0)))])]))
  (.leaf (.agg [(.int .i64 [([], (Int.ofNat (nat_lit 1)))]), (.int .i64 []), (.int .i64 [([], (Int.negSucc (nat_lit 0)))]), (.int .i64 [])])))
  (.leaf (.agg [(.int .i64 []), (.int .i64 [([], (Int.ofNat (nat_lit 1)))]), (.int .i64 []), (.int .i64 [([], (Int.negSucc (nat_lit 0)))])]))))
  (.test (.le [([], (Int.negSucc (nat_lit 1))), ([(.emod (nat_lit 12) (.var (nat_lit 0)))], (Int.ofNat (nat_lit 1)))])
  (.test (.le [([], (Int.negSucc (nat_lit 0))), ([(.emod (nat_lit 12) (.var (nat_lit 0)))], (Int.ofNat (nat_lit 1)))])
  (.test (.le [([(.emod (nat_lit 12) (.var (nat_lit 0)))], (Int.ofNat (nat_lit 1)))])
  (.leaf (.agg [(.int .i64 [([], (Int.ofNat (nat_lit 1)))]), (.int .i64 []), (.int .i64 []), (.int .i64 [])]))
  (.leaf (.agg [(.int .i64 []), (.int .i64 [([], (Int.ofNat (nat_lit 1)))]), (.int .i64 []), (.int .i64 [])])))
  (.leaf (.agg [(.int .i64 []), (.int .i64 []), (.int .i64 [([], (Int.ofNat (nat_lit 1)))]), (.int .i64 [])])))
  (.test (.le [([], (Int.negSucc (nat_lit 3))), ([(.emod (nat_lit 12) (.var (nat_lit 0)))], (Int.ofNat (nat_lit 1)))])
  (.test (.le [([], (Int.negSucc (nat_lit 2))), ([(.emod (nat_lit 12) (.var (nat_lit 0)))], (Int.ofNat (nat_lit 1)))])
  (.leaf (.agg [(.int .i64 []), (.int .i64 []), (.int .i64 []), (.int .i64 [([], (Int.ofNat (nat_lit 1)))])]))
  (.leaf (.agg [(.int .i64 [([], (Int.negSucc (nat_lit 0)))]), (.int .i64 []), (.int .i64 [([], (Int.ofNat (nat_lit 1)))]), (.int .i64 [])])))
  (.leaf (.agg [(.int .i64 []), (.int .i64 [([], (Int.negSucc (nat_lit 0)))]), (.int .i64 []), (.int .i64 [([], (Int.ofNat (nat_lit 1)))])]))))), [], []⟩
theorem rootS_exch : Exch rootE rootS := ⟨⟨rfl, rfl, rfl, rfl⟩, rfl, fun D _ _ => by
  simp only [rootE, rootS, ev_le, ev_eq, Poly.ev, Mono.ev, E.ev]
  have h := tmod_emod (D.env.v 0) 12
  have hb := tmod_bounds (n := D.env.v 0) (m := 12) (by omega)
  have hc : (D.env.v 0).tmod (Int.ofNat (nat_lit 12)) = -11 ∨ (D.env.v 0).tmod (Int.ofNat (nat_lit 12)) = -10 ∨ (D.env.v 0).tmod (Int.ofNat (nat_lit 12)) = -9 ∨ (D.env.v 0).tmod (Int.ofNat (nat_lit 12)) = -8 ∨ (D.env.v 0).tmod (Int.ofNat (nat_lit 12)) = -7 ∨ (D.env.v 0).tmod (Int.ofNat (nat_lit 12)) = -6 ∨ (D.env.v 0).tmod (Int.ofNat (nat_lit 12)) = -5 ∨ (D.env.v 0).tmod (Int.ofNat (nat_lit 12)) = -4 ∨ (D.env.v 0).tmod (Int.ofNat (nat_lit 12)) = -3 ∨ (D.env.v 0).tmod (Int.ofNat (nat_lit 12)) = -2 ∨ (D.env.v 0).tmod (Int.ofNat (nat_lit 12)) = -1 ∨ (D.env.v 0).tmod (Int.ofNat (nat_lit 12)) = 0 ∨ (D.env.v 0).tmod (Int.ofNat (nat_lit 12)) = 1 ∨ (D.env.v 0).tmod (Int.ofNat (nat_lit 12)) = 2 ∨ (D.env.v 0).tmod (Int.ofNat (nat_lit 12)) = 3 ∨ (D.env.v 0).tmod (Int.ofNat (nat_lit 12)) = 4 ∨ (D.env.v 0).tmod (Int.ofNat (nat_lit 12)) = 5 ∨ (D.env.v 0).tmod (Int.ofNat (nat_lit 12)) = 6 ∨ (D.env.v 0).tmod (Int.ofNat (nat_lit 12)) = 7 ∨ (D.env.v 0).tmod (Int.ofNat (nat_lit 12)) = 8 ∨ (D.env.v 0).tmod (Int.ofNat (nat_lit 12)) = 9 ∨ (D.env.v 0).tmod (Int.ofNat (nat_lit 12)) = 10 ∨ (D.env.v 0).tmod (Int.ofNat (nat_lit 12)) = 11 := by
    change (D.env.v 0).tmod 12 = -11 ∨ (D.env.v 0).tmod 12 = -10 ∨ (D.env.v 0).tmod 12 = -9 ∨ (D.env.v 0).tmod 12 = -8 ∨ (D.env.v 0).tmod 12 = -7 ∨ (D.env.v 0).tmod 12 = -6 ∨ (D.env.v 0).tmod 12 = -5 ∨ (D.env.v 0).tmod 12 = -4 ∨ (D.env.v 0).tmod 12 = -3 ∨ (D.env.v 0).tmod 12 = -2 ∨ (D.env.v 0).tmod 12 = -1 ∨ (D.env.v 0).tmod 12 = 0 ∨ (D.env.v 0).tmod 12 = 1 ∨ (D.env.v 0).tmod 12 = 2 ∨ (D.env.v 0).tmod 12 = 3 ∨ (D.env.v 0).tmod 12 = 4 ∨ (D.env.v 0).tmod 12 = 5 ∨ (D.env.v 0).tmod 12 = 6 ∨ (D.env.v 0).tmod 12 = 7 ∨ (D.env.v 0).tmod 12 = 8 ∨ (D.env.v 0).tmod 12 = 9 ∨ (D.env.v 0).tmod 12 = 10 ∨ (D.env.v 0).tmod 12 = 11
    generalize (D.env.v 0).tmod 12 = t at *
    omega
  clear hb
  rcases hc with g | g | g | g | g | g | g | g | g | g | g | g | g | g | g | g | g | g | g | g | g | g | g
  · have g' : (D.env.v 0).tmod 12 = -11 := g
    rw [g'] at h
    have he : D.env.v 0 % ((nat_lit 12 : Nat) : Int) = 1 := by change D.env.v 0 % 12 = 1; omega
    have hf : D.env.v 0 % ((nat_lit 6 : Nat) : Int) = 1 := by change D.env.v 0 % 6 = 1; omega
    simp only [g, he, hf]
    rfl
  · have g' : (D.env.v 0).tmod 12 = -10 := g
    rw [g'] at h
    have he : D.env.v 0 % ((nat_lit 12 : Nat) : Int) = 2 := by change D.env.v 0 % 12 = 2; omega
    have hf : D.env.v 0 % ((nat_lit 6 : Nat) : Int) = 2 := by change D.env.v 0 % 6 = 2; omega
    simp only [g, he, hf]
    rfl
  · have g' : (D.env.v 0).tmod 12 = -9 := g
    rw [g'] at h
    have he : D.env.v 0 % ((nat_lit 12 : Nat) : Int) = 3 := by change D.env.v 0 % 12 = 3; omega
    have hf : D.env.v 0 % ((nat_lit 6 : Nat) : Int) = 3 := by change D.env.v 0 % 6 = 3; omega
    simp only [g, he, hf]
    rfl
  · have g' : (D.env.v 0).tmod 12 = -8 := g
    rw [g'] at h
    have he : D.env.v 0 % ((nat_lit 12 : Nat) : Int) = 4 := by change D.env.v 0 % 12 = 4; omega
    have hf : D.env.v 0 % ((nat_lit 6 : Nat) : Int) = 4 := by change D.env.v 0 % 6 = 4; omega
    simp only [g, he, hf]
    rfl
  · have g' : (D.env.v 0).tmod 12 = -7 := g
    rw [g'] at h
    have he : D.env.v 0 % ((nat_lit 12 : Nat) : Int) = 5 := by change D.env.v 0 % 12 = 5; omega
    have hf : D.env.v 0 % ((nat_lit 6 : Nat) : Int) = 5 := by change D.env.v 0 % 6 = 5; omega
    simp only [g, he, hf]
    rfl
  · have g' : (D.env.v 0).tmod 12 = -6 := g
    rw [g'] at h
    have he : D.env.v 0 % ((nat_lit 12 : Nat) : Int) = 6 := by change D.env.v 0 % 12 = 6; omega
    have hf : D.env.v 0 % ((nat_lit 6 : Nat) : Int) = 0 := by change D.env.v 0 % 6 = 0; omega
    simp only [g, he, hf]
    rfl
  · have g' : (D.env.v 0).tmod 12 = -5 := g
    rw [g'] at h
    have he : D.env.v 0 % ((nat_lit 12 : Nat) : Int) = 7 := by change D.env.v 0 % 12 = 7; omega
    have hf : D.env.v 0 % ((nat_lit 6 : Nat) : Int) = 1 := by change D.env.v 0 % 6 = 1; omega
    simp only [g, he, hf]
    rfl
  · have g' : (D.env.v 0).tmod 12 = -4 := g
    rw [g'] at h
    have he : D.env.v 0 % ((nat_lit 12 : Nat) : Int) = 8 := by change D.env.v 0 % 12 = 8; omega
    have hf : D.env.v 0 % ((nat_lit 6 : Nat) : Int) = 2 := by change D.env.v 0 % 6 = 2; omega
    simp only [g, he, hf]
    rfl
  · have g' : (D.env.v 0).tmod 12 = -3 := g
    rw [g'] at h
    have he : D.env.v 0 % ((nat_lit 12 : Nat) : Int) = 9 := by change D.env.v 0 % 12 = 9; omega
    have hf : D.env.v 0 % ((nat_lit 6 : Nat) : Int) = 3 := by change D.env.v 0 % 6 = 3; omega
    simp only [g, he, hf]
    rfl
  · have g' : (D.env.v 0).tmod 12 = -2 := g
    rw [g'] at h
    have he : D.env.v 0 % ((nat_lit 12 : Nat) : Int) = 10 := by change D.env.v 0 % 12 = 10; omega
    have hf : D.env.v 0 % ((nat_lit 6 : Nat) : Int) = 4 := by change D.env.v 0 % 6 = 4; omega
    simp only [g, he, hf]
    rfl
  · have g' : (D.env.v 0).tmod 12 = -1 := g
    rw [g'] at h
    have he : D.env.v 0 % ((nat_lit 12 : Nat) : Int) = 11 := by change D.env.v 0 % 12 = 11; omega
    have hf : D.env.v 0 % ((nat_lit 6 : Nat) : Int) = 5 := by change D.env.v 0 % 6 = 5; omega
    simp only [g, he, hf]
    rfl
  · have g' : (D.env.v 0).tmod 12 = 0 := g
    rw [g'] at h
    have he : D.env.v 0 % ((nat_lit 12 : Nat) : Int) = 0 := by change D.env.v 0 % 12 = 0; omega
    have hf : D.env.v 0 % ((nat_lit 6 : Nat) : Int) = 0 := by change D.env.v 0 % 6 = 0; omega
    simp only [g, he, hf]
    rfl
  · have g' : (D.env.v 0).tmod 12 = 1 := g
    rw [g'] at h
    have he : D.env.v 0 % ((nat_lit 12 : Nat) : Int) = 1 := by change D.env.v 0 % 12 = 1; omega
    have hf : D.env.v 0 % ((nat_lit 6 : Nat) : Int) = 1 := by change D.env.v 0 % 6 = 1; omega
    simp only [g, he, hf]
    rfl
  · have g' : (D.env.v 0).tmod 12 = 2 := g
    rw [g'] at h
    have he : D.env.v 0 % ((nat_lit 12 : Nat) : Int) = 2 := by change D.env.v 0 % 12 = 2; omega
    have hf : D.env.v 0 % ((nat_lit 6 : Nat) : Int) = 2 := by change D.env.v 0 % 6 = 2; omega
    simp only [g, he, hf]
    rfl
  · have g' : (D.env.v 0).tmod 12 = 3 := g
    rw [g'] at h
    have he : D.env.v 0 % ((nat_lit 12 : Nat) : Int) = 3 := by change D.env.v 0 % 12 = 3; omega
    have hf : D.env.v 0 % ((nat_lit 6 : Nat) : Int) = 3 := by change D.env.v 0 % 6 = 3; omega
    simp only [g, he, hf]
    rfl
  · have g' : (D.env.v 0).tmod 12 = 4 := g
    rw [g'] at h
    have he : D.env.v 0 % ((nat_lit 12 : Nat) : Int) = 4 := by change D.env.v 0 % 12 = 4; omega
    have hf : D.env.v 0 % ((nat_lit 6 : Nat) : Int) = 4 := by change D.env.v 0 % 6 = 4; omega
    simp only [g, he, hf]
    rfl
  · have g' : (D.env.v 0).tmod 12 = 5 := g
    rw [g'] at h
    have he : D.env.v 0 % ((nat_lit 12 : Nat) : Int) = 5 := by change D.env.v 0 % 12 = 5; omega
    have hf : D.env.v 0 % ((nat_lit 6 : Nat) : Int) = 5 := by change D.env.v 0 % 6 = 5; omega
    simp only [g, he, hf]
    rfl
  · have g' : (D.env.v 0).tmod 12 = 6 := g
    rw [g'] at h
    have he : D.env.v 0 % ((nat_lit 12 : Nat) : Int) = 6 := by change D.env.v 0 % 12 = 6; omega
    have hf : D.env.v 0 % ((nat_lit 6 : Nat) : Int) = 0 := by change D.env.v 0 % 6 = 0; omega
    simp only [g, he, hf]
    rfl
  · have g' : (D.env.v 0).tmod 12 = 7 := g
    rw [g'] at h
    have he : D.env.v 0 % ((nat_lit 12 : Nat) : Int) = 7 := by change D.env.v 0 % 12 = 7; omega
    have hf : D.env.v 0 % ((nat_lit 6 : Nat) : Int) = 1 := by change D.env.v 0 % 6 = 1; omega
    simp only [g, he, hf]
    rfl
  · have g' : (D.env.v 0).tmod 12 = 8 := g
    rw [g'] at h
    have he : D.env.v 0 % ((nat_lit 12 : Nat) : Int) = 8 := by change D.env.v 0 % 12 = 8; omega
    have hf : D.env.v 0 % ((nat_lit 6 : Nat) : Int) = 2 := by change D.env.v 0 % 6 = 2; omega
    simp only [g, he, hf]
    rfl
  · have g' : (D.env.v 0).tmod 12 = 9 := g
    rw [g'] at h
    have he : D.env.v 0 % ((nat_lit 12 : Nat) : Int) = 9 := by change D.env.v 0 % 12 = 9; omega
    have hf : D.env.v 0 % ((nat_lit 6 : Nat) : Int) = 3 := by change D.env.v 0 % 6 = 3; omega
    simp only [g, he, hf]
    rfl
  · have g' : (D.env.v 0).tmod 12 = 10 := g
    rw [g'] at h
    have he : D.env.v 0 % ((nat_lit 12 : Nat) : Int) = 10 := by change D.env.v 0 % 12 = 10; omega
    have hf : D.env.v 0 % ((nat_lit 6 : Nat) : Int) = 4 := by change D.env.v 0 % 6 = 4; omega
    simp only [g, he, hf]
    rfl
  · have g' : (D.env.v 0).tmod 12 = 11 := g
    rw [g'] at h
    have he : D.env.v 0 % ((nat_lit 12 : Nat) : Int) = 11 := by change D.env.v 0 % 12 = 11; omega
    have hf : D.env.v 0 % ((nat_lit 6 : Nat) : Int) = 5 := by change D.env.v 0 % 6 = 5; omega
    simp only [g, he, hf]
    rfl⟩

end Go.Sym

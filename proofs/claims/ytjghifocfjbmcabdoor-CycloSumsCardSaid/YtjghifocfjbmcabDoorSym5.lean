/- SymGo, part 5: the quiet operations, put together: what each gives, in every world. -/
import Derived.Test.YtjghifocfjbmcabDoorSym4
namespace Go.Sym

/-- The low bits' mask: n for 2^n - 1. -/
def maskOf (q : Poly) : Option Nat := match q with
  | [([], .ofNat c)] => bif Nat.beq (Nat.pow 2 (Nat.log2 (c + 1))) (c + 1) then some (Nat.log2 (c + 1)) else none
  | _ => none
theorem maskOf_ok {ρ : Env} {q : Poly} {n : Nat} (h : maskOf q = some n) : Poly.ev ρ q = ((2 ^ n - 1 : Nat) : Int) := by
  unfold maskOf at h
  split at h
  · rename_i c
    cases hb : Nat.beq (Nat.pow 2 (Nat.log2 (c + 1))) (c + 1)
    · rw [hb] at h; simp at h
    · rw [hb] at h
      simp only [cond_true, Option.some.injEq] at h
      have := Nat.eq_of_beq_eq_true hb
      rw [h] at this
      have e : 2 ^ n = c + 1 := this
      rw [e]
      simp [Poly.ev, Mono.ev]
  · simp at h
/-- Does the number lie between 0 and the kind's greatest? -/
def inK (F : Facts) (k : IntKind) (p : Poly) : Bool := match Poly.bnd F p with
  | some v => ile 0 v.lo && ile v.hi (kmax k)
  | none => false
theorem inK_ok {ρ : Env} {F : Facts} (hs : Sat ρ F) {k : IntKind} {p : Poly} (h : inK F k p = true) : 0 ≤ Poly.ev ρ p ∧ Poly.ev ρ p ≤ kmax k := by
  unfold inK at h
  split at h
  · rename_i v hv
    rw [Bool.and_eq_true, ile_iff, ile_iff] at h
    have := Poly.bnd_has hs p v hv
    exact ⟨Int.le_trans h.1 this.1, Int.le_trans this.2 h.2⟩
  · simp at h
theorem kmax_lt (k : IntKind) : kmax k < ((2 ^ k.bits : Nat) : Int) := by cases k <;> simp [kmax, IntKind.bits]
theorem ofInt_toNat {k : IntKind} {a : Int} (h0 : 0 ≤ a) (h1 : a ≤ kmax k) : (BitVec.ofInt k.bits a).toNat = a.toNat := by
  have h2 := kmax_lt k
  rw [BitVec.toNat_ofInt, Int.emod_eq_of_lt h0 (by omega)]
theorem and_mask {k : IntKind} {a b : Int} {n : Nat} (h0 : 0 ≤ a) (h1 : a ≤ kmax k) (g1 : b ≤ kmax k) (hb : b = ((2 ^ n - 1 : Nat) : Int)) :
    k.wrap (BitVec.ofInt k.bits a &&& BitVec.ofInt k.bits b).toNat = a % ((2 ^ n : Nat) : Int) := by
  have g0 : 0 ≤ b := by omega
  rw [BitVec.toNat_and, ofInt_toNat h0 h1, ofInt_toNat g0 g1]
  have e1 : b.toNat = 2 ^ n - 1 := by omega
  rw [e1, Nat.and_two_pow_sub_one_eq_mod]
  have e2 : ((a.toNat % 2 ^ n : Nat) : Int) = a % ((2 ^ n : Nat) : Int) := by
    rw [Int.natCast_emod, Int.toNat_of_nonneg h0]
  rw [e2]
  have hp : (0 : Int) < ((2 ^ n : Nat) : Int) := by have := Nat.two_pow_pos n; omega
  have h3 : 0 ≤ a % ((2 ^ n : Nat) : Int) := Int.emod_nonneg _ (by omega)
  have h4 : a % ((2 ^ n : Nat) : Int) ≤ a := emod_le h0 hp
  exact wrap_same (by have : kmin k ≤ 0 := by cases k <;> simp [kmin]
                      omega) (by omega)
def andP (F : Facts) (k : IntKind) (p q : Poly) : Option Poly := match maskOf q with
  | some n => match inK F k p && inK F k q with
    | true => some (emodP F (Nat.pow 2 n) p)
    | false => none
  | none => none
theorem andP_ok {ρ : Env} {F : Facts} (hs : Sat ρ F) {k : IntKind} {p q r : Poly} (h : andP F k p q = some r) :
    Poly.ev ρ r = k.wrap (BitVec.ofInt k.bits (Poly.ev ρ p) &&& BitVec.ofInt k.bits (Poly.ev ρ q)).toNat := by
  unfold andP at h
  split at h
  · rename_i n hn
    split at h
    · rename_i hi
      rw [Bool.and_eq_true] at hi
      simp only [Option.some.injEq] at h
      subst h
      have h1 := inK_ok hs hi.1
      have h2 := inK_ok hs hi.2
      rw [emodP_ev hs, and_mask h1.1 h1.2 h2.2 (maskOf_ok hn)]
      rfl
    · simp at h
  · simp at h

/-- Words joined: `p` a multiple of 2^32, `q` below it. -/
def orP (F : Facts) (k : IntKind) (p q : Poly) : Option Poly := match inK F .u32 q && (inK F k p && (inK F k q && inK F k (Poly.plus p q))) with
  | true => match emodP F (Nat.pow 2 32) p with
    | [] => some (Poly.plus p q)
    | _ => none
  | false => none
theorem or_words {k : IntKind} {a b : Int} (h0 : 0 ≤ a) (h1 : a ≤ kmax k) (g0 : 0 ≤ b) (g1 : b ≤ kmax k) (hb : b < 4294967296) (hm : a % 4294967296 = 0) (hs : a + b ≤ kmax k) :
    k.wrap (BitVec.ofInt k.bits a ||| BitVec.ofInt k.bits b).toNat = a + b := by
  rw [BitVec.toNat_or, ofInt_toNat h0 h1, ofInt_toNat g0 g1]
  have e1 : a.toNat = 2 ^ 32 * (a.toNat / 2 ^ 32) := by omega
  rw [e1, ← Nat.two_pow_add_eq_or_of_lt (by omega), ← e1]
  have e2 : ((a.toNat + b.toNat : Nat) : Int) = a + b := by omega
  rw [e2]
  exact wrap_same (by have : kmin k ≤ 0 := by cases k <;> simp [kmin]
                      omega) (by omega)
theorem orP_ok {ρ : Env} {F : Facts} (hs : Sat ρ F) {k : IntKind} {p q r : Poly} (h : orP F k p q = some r) :
    Poly.ev ρ r = k.wrap (BitVec.ofInt k.bits (Poly.ev ρ p) ||| BitVec.ofInt k.bits (Poly.ev ρ q)).toNat := by
  unfold orP at h
  split at h
  · rename_i hi
    simp only [Bool.and_eq_true] at hi
    split at h
    · rename_i he
      simp only [Option.some.injEq] at h
      subst h
      have h1 := inK_ok hs hi.1
      have h2 := inK_ok hs hi.2.1
      have h3 := inK_ok hs hi.2.2.1
      have h4 := inK_ok hs hi.2.2.2
      have h5 := emodP_ev hs (m := Nat.pow 2 32) (p := p)
      rw [he] at h5
      rw [Poly.ev_plus] at h4 ⊢
      have h6 : kmax .u32 = 4294967295 := rfl
      have h7 : kmin .u32 = 0 := rfl
      rw [or_words (by omega) h2.2 (by omega) h3.2 (by omega) (by simpa [Poly.ev] using h5.symm) h4.2]
    · simp at h
  · simp at h

/-- Arithmetic and comparison of two ints of one kind. -/
def arithS (F : Facts) (op : BinOp) (k : IntKind) (p q : Poly) : R SV := match op with
  | .add => .ok (.int k (wrapP F k (Poly.plus p q)))
  | .sub => .ok (.int k (wrapP F k (Poly.minus p q)))
  | .mul => .ok (.int k (wrapP F k (Poly.times p q)))
  | .quo => R.then (nonZero F q) "quo: zero" (.ok (.int k (wrapP F k (quoP F p q))))
  | .rem => R.then (nonZero F q) "rem: zero" (settleV F p (.ok (.int k (remP F p q))))
  | .eql => (decEq F (Poly.minus p q)).bind fun b => .ok (.bool b)
  | .neq => (decEq F (Poly.minus p q)).bind fun b => .ok (.bool (!b))
  | .lss => (decLe F (Poly.plus (Poly.minus p q) (Poly.lit 1))).bind fun b => .ok (.bool b)
  | .leq => (decLe F (Poly.minus p q)).bind fun b => .ok (.bool b)
  | .gtr => (decLe F (Poly.plus (Poly.minus q p) (Poly.lit 1))).bind fun b => .ok (.bool b)
  | .geq => (decLe F (Poly.minus q p)).bind fun b => .ok (.bool b)
  | .and => match pointOf F p, pointOf F q with
    | some a, some b => .ok (.int k (Poly.lit (k.wrap (BitVec.ofInt k.bits a &&& BitVec.ofInt k.bits b).toNat)))
    | _, _ => match andP F k p q with
      | some r => .ok (.int k r)
      | none => match andP F k q p with
        | some r => .ok (.int k r)
        | none => .fail "and"
  | .or => match pointOf F p, pointOf F q with
    | some a, some b => .ok (.int k (Poly.lit (k.wrap (BitVec.ofInt k.bits a ||| BitVec.ofInt k.bits b).toNat)))
    | _, _ => match orP F k p q with
      | some r => .ok (.int k r)
      | none => match orP F k q p with
        | some r => .ok (.int k r)
        | none => .fail "or"
  | _ => .fail "arith"
theorem binOp_ints {op : BinOp} {t : TypeId} {k : IntKind} {a b : Int} (hs : op ≠ .shl) (hs' : op ≠ .shr) :
    binOp op t (.int k a) (.int k b) = match op with
    | .add | .sub | .mul => Op.intArith op k a b
    | .quo | .rem => Op.intDiv op k a b
    | .and | .or | .xor | .andNot => Op.intBits op k a b
    | _ => Op.intCmp op a b := by
  cases op <;> first | exact absurd rfl hs | exact absurd rfl hs' | simp [binOp]
theorem arithS_ok {P : Program} {ρ : Env} {F : Facts} (hs : Sat ρ F) {D : Den} (hD : D.env = ρ) {μ : Mu} {op : BinOp} {t : TypeId} {k : IntKind} {p q : Poly} {v : SV} (h : arithS F op k p q = .ok v) :
    ∃ V, v.den D μ = some V ∧ Gives P (binOp op t (.int k (Poly.ev ρ p)) (.int k (Poly.ev ρ q))) V := by
  subst hD
  have cmp : ∀ {b : Bool} {x : Int} {pr : Poly}, decLe F pr = .ok b → Poly.ev D.env pr = x → decide (x ≤ 0) = b := fun {b x pr} h1 h2 => by
    rw [← h2]; exact decLe_ok hs h1
  cases op <;> simp only [arithS] at h
  case add => simp only [R.ok.injEq] at h; subst h; exact ⟨_, rfl, fun w => by rw [binOp_ints (by simp) (by simp)]; simp [Op.intArith, wrapP_ev hs, Poly.ev_plus]⟩
  case sub => simp only [R.ok.injEq] at h; subst h; exact ⟨_, rfl, fun w => by rw [binOp_ints (by simp) (by simp)]; simp [Op.intArith, wrapP_ev hs, Poly.ev_minus]⟩
  case mul => simp only [R.ok.injEq] at h; subst h; exact ⟨_, rfl, fun w => by rw [binOp_ints (by simp) (by simp)]; simp [Op.intArith, wrapP_ev hs, Poly.ev_times]⟩
  case quo =>
    obtain ⟨h1, h2⟩ := R.then_ok h
    have := nonZero_ok hs h1
    simp only [R.ok.injEq] at h2; subst h2; exact ⟨_, rfl, fun w => by rw [binOp_ints (by simp) (by simp)]; simp [Op.intDiv, this, wrapP_ev hs, quoP_ev hs]⟩
  case rem =>
    obtain ⟨h1, h2⟩ := R.then_ok h
    have := nonZero_ok hs h1
    have h2 := settleV_ok h2
    simp only [R.ok.injEq] at h2; subst h2; exact ⟨_, rfl, fun w => by rw [binOp_ints (by simp) (by simp)]; simp [Op.intDiv, this, remP_ev hs]⟩
  case and =>
    split at h
    · rename_i a b ha hb
      simp only [R.ok.injEq] at h; subst h
      exact ⟨_, rfl, fun w => by rw [binOp_ints (by simp) (by simp)]; simp only [Op.intBits]; rw [pointOf_ok hs ha, pointOf_ok hs hb, Poly.ev_lit]; rfl⟩
    · split at h
      · rename_i r hr
        simp only [R.ok.injEq] at h; subst h
        exact ⟨_, rfl, fun w => by rw [binOp_ints (by simp) (by simp)]; simp only [Op.intBits]; rw [andP_ok hs hr]; rfl⟩
      · split at h
        · rename_i r hr
          simp only [R.ok.injEq] at h; subst h
          exact ⟨_, rfl, fun w => by rw [binOp_ints (by simp) (by simp)]; simp only [Op.intBits]; rw [andP_ok hs hr, BitVec.and_comm]; rfl⟩
        · simp at h
  case or =>
    split at h
    · rename_i a b ha hb
      simp only [R.ok.injEq] at h; subst h
      exact ⟨_, rfl, fun w => by rw [binOp_ints (by simp) (by simp)]; simp only [Op.intBits]; rw [pointOf_ok hs ha, pointOf_ok hs hb, Poly.ev_lit]; rfl⟩
    · split at h
      · rename_i r hr
        simp only [R.ok.injEq] at h; subst h
        exact ⟨_, rfl, fun w => by rw [binOp_ints (by simp) (by simp)]; simp only [Op.intBits]; rw [orP_ok hs hr]; rfl⟩
      · split at h
        · rename_i r hr
          simp only [R.ok.injEq] at h; subst h
          exact ⟨_, rfl, fun w => by rw [binOp_ints (by simp) (by simp)]; simp only [Op.intBits]; rw [orP_ok hs hr, BitVec.or_comm]; rfl⟩
        · simp at h
  case xor => simp at h
  case shl => simp at h
  case shr => simp at h
  case andNot => simp at h
  case eql =>
    obtain ⟨b, h1, h2⟩ := R.bind_ok h
    have h3 := decEq_ok hs h1
    rw [Poly.ev_minus] at h3
    simp only [R.ok.injEq] at h2; subst h2
    refine ⟨_, rfl, fun w => ?_⟩
    rw [binOp_ints (by simp) (by simp)]
    simp only [Op.intCmp, Sem.run_pure]
    congr 2
    rw [← h3]
    by_cases e : Poly.ev D.env p = Poly.ev D.env q
    · simp [e]
    · have e2 : ¬ Poly.ev D.env p - Poly.ev D.env q = 0 := by omega
      simp [e, e2]
  case neq =>
    obtain ⟨b, h1, h2⟩ := R.bind_ok h
    have h3 := decEq_ok hs h1
    rw [Poly.ev_minus] at h3
    simp only [R.ok.injEq] at h2; subst h2
    refine ⟨_, rfl, fun w => ?_⟩
    rw [binOp_ints (by simp) (by simp)]
    simp only [Op.intCmp, Sem.run_pure]
    congr 2
    rw [← h3]
    by_cases e : Poly.ev D.env p = Poly.ev D.env q
    · simp [e]
    · have e2 : ¬ Poly.ev D.env p - Poly.ev D.env q = 0 := by omega
      simp [e, e2]
  case lss =>
    obtain ⟨b, h1, h2⟩ := R.bind_ok h
    have h3 := cmp h1 rfl
    rw [Poly.ev_plus, Poly.ev_minus, Poly.ev_lit] at h3
    simp only [R.ok.injEq] at h2; subst h2
    refine ⟨_, rfl, fun w => ?_⟩
    rw [binOp_ints (by simp) (by simp)]
    simp only [Op.intCmp, Sem.run_pure]
    congr 2
    rw [← h3, decide_eq_decide]
    omega
  case leq =>
    obtain ⟨b, h1, h2⟩ := R.bind_ok h
    have h3 := cmp h1 rfl
    rw [Poly.ev_minus] at h3
    simp only [R.ok.injEq] at h2; subst h2
    refine ⟨_, rfl, fun w => ?_⟩
    rw [binOp_ints (by simp) (by simp)]
    simp only [Op.intCmp, Sem.run_pure]
    congr 2
    rw [← h3, decide_eq_decide]
    omega
  case gtr =>
    obtain ⟨b, h1, h2⟩ := R.bind_ok h
    have h3 := cmp h1 rfl
    rw [Poly.ev_plus, Poly.ev_minus, Poly.ev_lit] at h3
    simp only [R.ok.injEq] at h2; subst h2
    refine ⟨_, rfl, fun w => ?_⟩
    rw [binOp_ints (by simp) (by simp)]
    simp only [Op.intCmp, Sem.run_pure]
    congr 2
    rw [← h3, decide_eq_decide]
    omega
  case geq =>
    obtain ⟨b, h1, h2⟩ := R.bind_ok h
    have h3 := cmp h1 rfl
    rw [Poly.ev_minus] at h3
    simp only [R.ok.injEq] at h2; subst h2
    refine ⟨_, rfl, fun w => ?_⟩
    rw [binOp_ints (by simp) (by simp)]
    simp only [Op.intCmp, Sem.run_pure]
    congr 2
    rw [← h3, decide_eq_decide]
    omega

/-- Shifts by a known number. -/
def shiftS (F : Facts) (op : BinOp) (k : IntKind) (p q : Poly) : R SV := (concrete F q).bind fun n => R.then (ile 0 n) "shift: negative" (match op with
  | .shl => .ok (.int k (wrapP F k (Poly.scale (2 ^ (min n.toNat k.bits)) p)))
  | .shr => .ok (.int k (fdivP F p (2 ^ (min n.toNat k.bits))))
  | _ => .fail "shift")
theorem shiftS_ok {P : Program} {F : Facts} {D : Den} (hs : Sat D.env F) {μ : Mu} {op : BinOp} {t : TypeId} {k l : IntKind} {p q : Poly} {v : SV} (h : shiftS F op k p q = .ok v) :
    ∃ V, v.den D μ = some V ∧ Gives P (binOp op t (.int k (Poly.ev D.env p)) (.int l (Poly.ev D.env q))) V := by
  obtain ⟨n, hn, h1⟩ := R.bind_ok h
  obtain ⟨h0, h2⟩ := R.then_ok h1
  clear h h1
  have hn := concrete_ok hs hn
  have h0 := ile_iff.1 h0
  split at h2
  · simp only [R.ok.injEq] at h2; subst h2
    refine ⟨_, rfl, fun w => ?_⟩
    simp only [binOp, Op.shift, hn]
    rw [if_neg (by omega)]
    simp [wrapP_ev hs, Poly.ev_scale, Int.mul_comm]
  · simp only [R.ok.injEq] at h2; subst h2
    refine ⟨_, rfl, fun w => ?_⟩
    simp only [binOp, Op.shift, hn]
    rw [if_neg (by omega)]
    simp [fdivP_ev hs]
  · simp at h2

def eqDepth : Nat := 12
/-- A binary operation. -/
def binS (C : Cfg) (op : BinOp) (t : TypeId) (x y : SV) : R SV := match x, y with
  | .int k p, .int l q => match op with
    | .shl => shiftS C.F .shl k p q
    | .shr => shiftS C.F .shr k p q
    | op => R.then (Nat.beq (kidx k) (kidx l)) "binary: kinds" (arithS C.F op k p q)
  | .agg xs, .agg ys => R.then (!C.P.eqGuardType C.P.depth t) "equality: guard" (match op with
    | .eql => (eqS C eqDepth t (.agg xs) (.agg ys)).bind fun b => .ok (.bool b)
    | .neq => (eqS C eqDepth t (.agg xs) (.agg ys)).bind fun b => .ok (.bool (!b))
    | _ => .fail "binary: aggregates")
  | .bool a, .bool b => (undT C t).bind fun d => match d, op with
    | .bool, .eql => .ok (.bool (a == b))
    | .bool, .neq => .ok (.bool (!(a == b)))
    | _, _ => .fail "binary: bools"
  | _, _ => .fail "binary: operands"
theorem eqGuard_other {P : Program} {op : BinOp} {t : TypeId} {x y : Operand} {a b : Value} (h1 : a ≠ .nilIface) (h2 : ∀ c, a ≠ .agg c) : Gives P (eqGuard op t x y a b) () := fun w => by
  unfold eqGuard
  cases op <;> cases a <;> first | rfl | exact absurd rfl h1 | exact absurd rfl (h2 _)
theorem binS_ok {C : Cfg} {D : Den} {μ : Mu} (hs : Sat D.env C.F) {op : BinOp} {t : TypeId} {x y : SV} {ox oy : Operand} {v : SV} {X Y : Value} (hx : x.den D μ = some X) (hy : y.den D μ = some Y)
    (h : binS C op t x y = .ok v) : ∃ V, v.den D μ = some V ∧ Gives C.P (eqGuard op t ox oy X Y) () ∧ Gives C.P (binOp op t X Y) V := by
  unfold binS at h
  split at h
  · rename_i k p l q
    simp only [SV.den, Option.some.injEq] at hx hy
    subst hx hy
    have guard : Gives C.P (eqGuard op t ox oy (.int k (Poly.ev D.env p)) (.int l (Poly.ev D.env q))) () := eqGuard_other (by simp) (by simp)
    split at h
    · obtain ⟨V, h1, h2⟩ := shiftS_ok (P := C.P) (μ := μ) (t := t) (l := l) hs h; exact ⟨V, h1, guard, h2⟩
    · obtain ⟨V, h1, h2⟩ := shiftS_ok (P := C.P) (μ := μ) (t := t) (l := l) hs h; exact ⟨V, h1, guard, h2⟩
    · obtain ⟨hk, ha⟩ := R.then_ok h
      clear h
      obtain rfl := kidx_inj (beq_iff.1 hk)
      obtain ⟨V, h1, h2⟩ := arithS_ok (P := C.P) (μ := μ) (t := t) hs rfl ha
      exact ⟨V, h1, guard, h2⟩
  · rename_i xs ys
    obtain ⟨hg, h1⟩ := R.then_ok h
    clear h
    have hx' := hx
    have hy' := hy
    simp only [SV.den, Option.map_eq_some_iff] at hx hy
    obtain ⟨X', hX, rfl⟩ := hx
    obtain ⟨Y', hY, rfl⟩ := hy
    have guard : Gives C.P (eqGuard op t ox oy (.agg X'.toArray) (.agg Y'.toArray)) () := fun w => run_eqGuard_agg w op t ox oy _ _ (by simpa using hg)
    split at h1
    · obtain ⟨b, h2, h3⟩ := R.bind_ok h1
      simp only [R.ok.injEq] at h3; subst h3
      refine ⟨_, rfl, guard, fun w => ?_⟩
      rw [run_eql_struct w, eqS_ok hs eqDepth 10000 t _ _ _ _ b (by decide) hx' hy' h2 w]
      rfl
    · obtain ⟨b, h2, h3⟩ := R.bind_ok h1
      simp only [R.ok.injEq] at h3; subst h3
      refine ⟨_, rfl, guard, fun w => ?_⟩
      rw [run_neq_struct w, eqS_ok hs eqDepth 10000 t _ _ _ _ b (by decide) hx' hy' h2 w]
      rfl
    · simp at h1
  · rename_i a b
    simp only [SV.den, Option.some.injEq] at hx hy
    subst hx hy
    obtain ⟨d, hu, h1⟩ := R.bind_ok h
    clear h
    have hu := undT_ok hu
    have guard : Gives C.P (eqGuard op t ox oy (.bool a) (.bool b)) () := eqGuard_other (by simp) (by simp)
    split at h1
    · simp only [R.ok.injEq] at h1; subst h1
      refine ⟨_, rfl, guard, fun w => ?_⟩
      simp only [binOp, Sem.run_bind, run_equal_bool w t a b hu, Result.andThen_ok, Sem.run_pure]
    · simp only [R.ok.injEq] at h1; subst h1
      refine ⟨_, rfl, guard, fun w => ?_⟩
      simp only [binOp, Sem.run_bind, run_equal_bool w t a b hu, Result.andThen_ok, Sem.run_pure]
    · simp at h1
  · simp at h

theorem compl_unsigned {k : IntKind} {a : Int} (hk : k.signed = false) (h0 : 0 ≤ a) (h1 : a ≤ kmax k) :
    k.wrap (BitVec.ofInt k.bits k.max ^^^ BitVec.ofInt k.bits a).toNat = kmax k - a := by
  have e1 : BitVec.ofInt k.bits k.max = BitVec.allOnes k.bits := by
    cases k <;> simp [IntKind.signed] at hk <;> rfl
  rw [e1, BitVec.allOnes_xor, BitVec.toNat_not, ofInt_toNat h0 h1]
  have e2 : ((2 ^ k.bits - 1 - a.toNat : Nat) : Int) = kmax k - a := by
    cases k <;> simp [IntKind.signed] at hk <;> simp [kmax, IntKind.bits] at h1 ⊢ <;> omega
  rw [e2]
  refine wrap_same ?_ ?_
  · have : kmin k = 0 := by cases k <;> simp [IntKind.signed] at hk <;> rfl
    omega
  · omega
def unS (C : Cfg) (op : UnOp) (x : SV) : R SV := match op, x with
  | .neg, .int k p => .ok (.int k (wrapP C.F k (Poly.neg p)))
  | .not, .bool b => .ok (.bool (!b))
  | .xor, .int k p => match pointOf C.F p with
    | some a => .ok (.int k (Poly.lit (k.wrap (BitVec.ofInt k.bits (if k.signed then -1 else k.max) ^^^ BitVec.ofInt k.bits a).toNat)))
    | none => R.then (!k.signed && inK C.F k p) "complement" (.ok (.int k (Poly.minus (Poly.lit (kmax k)) p)))
  | _, _ => .fail "unary"
theorem unS_ok {C : Cfg} {D : Den} {μ : Mu} (hs : Sat D.env C.F) {op : UnOp} {x v : SV} {X : Value} (hx : x.den D μ = some X) (h : unS C op x = .ok v) :
    ∃ V, v.den D μ = some V ∧ Gives C.P (Op.unary op X) V := by
  unfold unS at h
  split at h
  · rename_i k p
    simp only [SV.den, Option.some.injEq] at hx
    simp only [R.ok.injEq] at h
    subst hx h
    refine ⟨_, rfl, fun w => ?_⟩
    simp [Op.unary, Op.intArith, wrapP_ev hs, Poly.ev_neg]
  · simp only [SV.den, Option.some.injEq] at hx
    simp only [R.ok.injEq] at h
    subst hx h
    exact ⟨_, rfl, fun w => rfl⟩
  · rename_i k p
    split at h
    · rename_i a ha
      simp only [SV.den, Option.some.injEq] at hx
      simp only [R.ok.injEq] at h
      subst hx h
      refine ⟨_, rfl, fun w => ?_⟩
      simp only [Op.unary, Op.intBits, pointOf_ok hs ha, Poly.ev_lit]
      rfl
    · obtain ⟨h1, h2⟩ := R.then_ok h
      simp only [Bool.and_eq_true, Bool.not_eq_true'] at h1
      simp only [SV.den, Option.some.injEq] at hx
      simp only [R.ok.injEq] at h2
      subst hx h2
      refine ⟨_, rfl, fun w => ?_⟩
      have hb := inK_ok hs h1.2
      simp only [Op.unary, Op.intBits, Poly.ev_minus, Poly.ev_lit, h1.1, Bool.false_eq_true, if_false]
      rw [compl_unsigned h1.1 hb.1 hb.2]
      rfl
  · simp at h

def convS (C : Cfg) (s d : TypeId) (x : SV) : R SV := (undT C s).bind fun _ => (undT C d).bind fun e => match e, x with
  | .int k, .int _ p => .ok (.int k (wrapP C.F k p))
  | _, _ => .fail "convert"
theorem convS_ok {C : Cfg} {D : Den} {μ : Mu} (hs : Sat D.env C.F) {s d : TypeId} {x v : SV} {X : Value} (hx : x.den D μ = some X) (h : convS C s d x = .ok v) :
    ∃ V, v.den D μ = some V ∧ Gives C.P (convert s d X) V := by
  obtain ⟨e0, hu0, h1⟩ := R.bind_ok h
  obtain ⟨e, hu, h2⟩ := R.bind_ok h1
  clear h h1
  split at h2
  · rename_i k l p
    simp only [SV.den, Option.some.injEq] at hx
    simp only [R.ok.injEq] at h2
    subst hx h2
    refine ⟨_, rfl, fun w => ?_⟩
    simp only [convert, Sem.run_bind, run_underlying (undT_ok hu0), run_underlying (undT_ok hu), Result.andThen_ok]
    simp [Conv.intToInt, wrapP_ev hs]
  · simp at h2

theorem add_none (b o n : Nat) : (⟨b, o, none⟩ : Addr).add n = ⟨b, o + n, none⟩ := by
  unfold Addr.add; split <;> simp_all

/-- An address moved on by some cells. -/
def SV.move (v : SV) (n : Nat) : R SV := match v with
  | .ptr id off => .ok (.ptr id (off + n))
  | .xptr i off => .ok (.xptr i (off + n))
  | _ => .fail "an address expected"
theorem SV.move_ok {D : Den} {μ : Mu} {v u : SV} {n : Nat} {V : Value} (hv : v.den D μ = some V) (h : v.move n = .ok u) :
    ∃ b o, V = .pointer (some ⟨b, o, none⟩) ∧ u.den D μ = some (.pointer (some ⟨b, o + n, none⟩)) := by
  unfold SV.move at h
  split at h
  · simp only [SV.den, Option.map_eq_some_iff] at hv
    obtain ⟨b, hb, rfl⟩ := hv
    simp only [R.ok.injEq] at h; subst h
    exact ⟨_, _, rfl, by simp [SV.den, hb]⟩
  · simp only [SV.den, Option.some.injEq] at hv
    simp only [R.ok.injEq] at h; subst h hv
    exact ⟨_, _, rfl, by simp [SV.den, Nat.add_assoc]⟩
  · simp at h

def fieldAddrS (C : Cfg) (s : TypeId) (x : SV) (f : Nat) : R SV := (undT C s).bind fun d => match d with
  | .struct fs => match fs[f]? with
    | some fd => (szT C fd.type).bind fun n => R.then (!Nat.beq n 0) "fieldAddr: size 0" (x.move fd.offset)
    | none => .fail "fieldAddr"
  | _ => .fail "fieldAddr: struct expected"
theorem fieldAddrS_ok {C : Cfg} {D : Den} {μ : Mu} {s : TypeId} {x v : SV} {f : Nat} {X : Value} (hx : x.den D μ = some X) (h : fieldAddrS C s x f = .ok v) :
    ∃ V, v.den D μ = some V ∧ Gives C.P (Instr.fieldAt s X f) V := by
  obtain ⟨d, hu0, h1⟩ := R.bind_ok h
  have hu := undT_ok hu0
  clear h hu0
  split at h1
  · rename_i fs
    split at h1
    · rename_i fd hf
      obtain ⟨n, hn, h2⟩ := R.bind_ok h1
      obtain ⟨h0, h3⟩ := R.then_ok h2
      obtain ⟨b, o, rfl, hd⟩ := SV.move_ok hx h3
      have hn0 : n ≠ 0 := fun e => by rw [e] at h0; simp at h0
      refine ⟨_, hd, fun w => ?_⟩
      simp only [Instr.fieldAt, Sem.run_bind, run_underlying hu, Result.andThen_ok, hf, Instr.sureAddr, Sem.run_pure, fieldPlace, szT_ok hn w, hn0, if_false, add_none]
    · simp at h1
  · simp at h1

def fieldS (C : Cfg) (t : TypeId) (x : SV) (f : Nat) : R SV := (undT C t).bind fun d => match d, x with
  | .struct fs, .agg cs => match fs[f]? with
    | some fd => partS C fd.type cs fd.offset
    | none => .fail "field"
  | _, _ => .fail "field: struct expected"
theorem fieldS_ok {C : Cfg} {D : Den} {μ : Mu} {t : TypeId} {x v : SV} {f : Nat} {X : Value} (hx : x.den D μ = some X) (h : fieldS C t x f = .ok v) :
    ∃ V, v.den D μ = some V ∧ Gives C.P (Instr.field t X f) V := by
  obtain ⟨d, hu0, h1⟩ := R.bind_ok h
  have hu := undT_ok hu0
  clear h hu0
  split at h1
  · rename_i fs cs
    split at h1
    · rename_i fd hf
      simp only [SV.den, Option.map_eq_some_iff] at hx
      obtain ⟨X', hX, rfl⟩ := hx
      obtain ⟨V, hV, hg⟩ := partS_ok hX h1
      refine ⟨V, hV, fun w => ?_⟩
      simp only [Instr.field, Sem.run_bind, run_underlying hu, Result.andThen_ok, hf, asAgg, Sem.run_pure, hg w]
    · simp at h1
  · simp at h1

/-- The index, as a number below n. -/
def indexS (C : Cfg) (x : SV) (n : Nat) : R Nat := match x with
  | .int _ p => (concrete C.F p).bind fun i => match i with
    | .ofNat j => R.then (Nat.blt j n) "index out of range" (.ok j)
    | _ => .fail "index negative"
  | _ => .fail "index: int expected"
theorem indexS_ok {C : Cfg} {D : Den} {μ : Mu} (hs : Sat D.env C.F) {x : SV} {n j : Nat} {X : Value} (hx : x.den D μ = some X) (h : indexS C x n = .ok j) : ∃ k, X = .int k (j : Int) ∧ j < n := by
  unfold indexS at h
  split at h
  · rename_i k p
    obtain ⟨i, hi, h1⟩ := R.bind_ok h
    clear h
    have hi := concrete_ok hs hi
    split at h1
    · obtain ⟨h0, h2⟩ := R.then_ok h1
      simp only [R.ok.injEq] at h2
      subst h2
      simp only [SV.den, Option.some.injEq] at hx
      subst hx
      exact ⟨k, by rw [hi]; rfl, blt_iff.1 h0⟩
    · simp at h1
  · simp at h

def indexAddrS (C : Cfg) (t : TypeId) (x ix : SV) : R SV := (undT C t).bind fun d => match d with
  | .array n e => (indexS C ix n).bind fun j => (szT C e).bind fun sz => x.move (j * sz)
  | .slice e => match x with
    | .slice id off len _ _ => (indexS C ix len).bind fun j => (szT C e).bind fun sz => .ok (.ptr id (off + j * sz))
    | .xslice i off len _ => (indexS C ix len).bind fun j => (szT C e).bind fun sz => .ok (.xptr i (off + j * sz))
    | .aslice i len _ => (indexS C ix len).bind fun j => (szT C e).bind fun sz => .ok (.xptr i (j * sz))
    | .oslice id len => (indexS C ix len).bind fun j => (szT C e).bind fun sz => .ok (.ptr id (j * sz))
    | _ => .fail "indexAddr: slice expected"
  | _ => .fail "indexAddr"
theorem indexAddrS_ok {C : Cfg} {D : Den} {μ : Mu} (hs : Sat D.env C.F) {t : TypeId} {x ix v : SV} {X I : Value} (hx : x.den D μ = some X) (hi : ix.den D μ = some I) (h : indexAddrS C t x ix = .ok v) :
    ∃ V, v.den D μ = some V ∧ Gives C.P (Instr.indexAt t X I) V := by
  obtain ⟨d, hu0, h1⟩ := R.bind_ok h
  have hu := undT_ok hu0
  clear h hu0
  split at h1
  · rename_i n e
    obtain ⟨j, hj, h2⟩ := R.bind_ok h1
    obtain ⟨sz, hsz, h3⟩ := R.bind_ok h2
    obtain ⟨k, rfl, hlt⟩ := indexS_ok hs hi hj
    obtain ⟨b, o, rfl, hd⟩ := SV.move_ok hx h3
    refine ⟨_, hd, fun w => ?_⟩
    have : (0 : Int) ≤ j ∧ (j : Int) < n := ⟨by omega, by omega⟩
    simp only [Instr.indexAt, asIntOf, Sem.run_bind, Sem.run_pure, run_underlying hu, Result.andThen_ok, Instr.sureAddr, this, and_self, if_true, szT_ok hsz w, Int.toNat_natCast, add_none]
  · rename_i e
    split at h1
    · rename_i id off len cap u
      obtain ⟨j, hj, h2⟩ := R.bind_ok h1
      obtain ⟨sz, hsz, h3⟩ := R.bind_ok h2
      obtain ⟨k, rfl, hlt⟩ := indexS_ok hs hi hj
      simp only [SV.den, Option.map_eq_some_iff] at hx
      obtain ⟨b, hb, rfl⟩ := hx
      simp only [R.ok.injEq] at h3
      subst h3
      refine ⟨.pointer (some ⟨b.1, off + j * sz, none⟩), by simp [SV.den, hb], fun w => ?_⟩
      have : (0 : Int) ≤ j ∧ (j : Int) < len := ⟨by omega, by omega⟩
      simp only [Instr.indexAt, asIntOf, Sem.run_bind, Sem.run_pure, run_underlying hu, Result.andThen_ok, this, and_self, if_true, szT_ok hsz w, Int.toNat_natCast, add_none]
    · rename_i i off len cap
      obtain ⟨j, hj, h2⟩ := R.bind_ok h1
      obtain ⟨sz, hsz, h3⟩ := R.bind_ok h2
      obtain ⟨k, rfl, hlt⟩ := indexS_ok hs hi hj
      simp only [SV.den, Option.some.injEq] at hx
      subst hx
      simp only [R.ok.injEq] at h3
      subst h3
      refine ⟨_, rfl, fun w => ?_⟩
      have : (0 : Int) ≤ j ∧ (j : Int) < len := ⟨by omega, by omega⟩
      simp only [Instr.indexAt, asIntOf, Sem.run_bind, Sem.run_pure, run_underlying hu, Result.andThen_ok, this, and_self, if_true, szT_ok hsz w, Int.toNat_natCast, add_none, Nat.add_assoc]
    rotate_left
    · rename_i id len
      obtain ⟨j, hj, h2⟩ := R.bind_ok h1
      obtain ⟨sz, hsz, h3⟩ := R.bind_ok h2
      obtain ⟨k, rfl, hlt⟩ := indexS_ok hs hi hj
      obtain ⟨b, hb, hn, rfl⟩ := oslice_den hx
      simp only [R.ok.injEq] at h3
      subst h3
      refine ⟨.pointer (some ⟨b.1, j * sz, none⟩), by simp [SV.den, hb], fun w => ?_⟩
      have : (0 : Int) ≤ j ∧ (j : Int) < len := ⟨by omega, by omega⟩
      simp only [Instr.indexAt, asIntOf, Sem.run_bind, Sem.run_pure, run_underlying hu, Result.andThen_ok, this, and_self, if_true, szT_ok hsz w, Int.toNat_natCast, add_none, Nat.zero_add]
    · simp at h1
    · rename_i i len full
      obtain ⟨j, hj, h2⟩ := R.bind_ok h1
      obtain ⟨sz, hsz, h3⟩ := R.bind_ok h2
      obtain ⟨k, rfl, hlt⟩ := indexS_ok hs hi hj
      simp only [SV.den, Option.some.injEq] at hx
      subst hx
      simp only [R.ok.injEq] at h3
      subst h3
      refine ⟨_, rfl, fun w => ?_⟩
      have : (0 : Int) ≤ j ∧ (j : Int) < len := ⟨by omega, by omega⟩
      simp only [Instr.indexAt, asIntOf, Sem.run_bind, Sem.run_pure, run_underlying hu, Result.andThen_ok, this, and_self, if_true, szT_ok hsz w, Int.toNat_natCast, add_none]
  · simp at h1

def indexValS (C : Cfg) (t : TypeId) (x ix : SV) : R SV := (undT C t).bind fun d => match d, x with
  | .array n e, .agg cs => (indexS C ix n).bind fun j => (szT C e).bind fun sz => partS C e cs (j * sz)
  | _, _ => .fail "index: array expected"
theorem indexValS_ok {C : Cfg} {D : Den} {μ : Mu} (hs : Sat D.env C.F) {t : TypeId} {x ix v : SV} {X I : Value} (hx : x.den D μ = some X) (hi : ix.den D μ = some I) (h : indexValS C t x ix = .ok v) :
    ∃ V, v.den D μ = some V ∧ Gives C.P (Instr.index t X I) V := by
  obtain ⟨d, hu0, h1⟩ := R.bind_ok h
  have hu := undT_ok hu0
  clear h hu0
  split at h1
  · rename_i n e cs
    obtain ⟨j, hj, h2⟩ := R.bind_ok h1
    obtain ⟨sz, hsz, h3⟩ := R.bind_ok h2
    obtain ⟨k, rfl, hlt⟩ := indexS_ok hs hi hj
    simp only [SV.den, Option.map_eq_some_iff] at hx
    obtain ⟨X', hX, rfl⟩ := hx
    obtain ⟨V, hV, hg⟩ := partS_ok hX h3
    refine ⟨V, hV, fun w => ?_⟩
    have : (0 : Int) ≤ j ∧ (j : Int) < n := ⟨by omega, by omega⟩
    simp only [Instr.index, asIntOf, Sem.run_bind, Sem.run_pure, run_underlying hu, Result.andThen_ok, this, and_self, if_true, szT_ok hsz w, Int.toNat_natCast, hg w]
  · simp at h1

def extractS (x : SV) (i : Nat) : R SV := match x with
  | .tuple l => match l[i]? with
    | some v => .ok v
    | none => .fail "extract"
  | _ => .fail "extract: tuple expected"
theorem extractS_ok {P : Program} {D : Den} {μ : Mu} {x v : SV} {i : Nat} {X : Value} (hx : x.den D μ = some X) (h : extractS x i = .ok v) :
    ∃ V, v.den D μ = some V ∧ Gives P (Instr.extract X i) V := by
  unfold extractS at h
  split at h
  · split at h
    · rename_i l u hu
      simp only [SV.den, Option.map_eq_some_iff] at hx
      obtain ⟨X', hX, rfl⟩ := hx
      simp only [R.ok.injEq] at h
      subst h
      obtain ⟨V, hV, hg⟩ := denL_get hX hu
      exact ⟨V, hV, fun w => by simp [Instr.extract, hg]⟩
    · simp at h
  · simp at h

end Go.Sym

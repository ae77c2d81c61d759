/- SymGo, part 4: the operations that neither write nor make memory, each sound in every world. -/
import Derived.Test.YtjghifocfjbmcabDoorSymS
namespace Go.Sym

/-- What the run is told: the program, the facts on the numbers, the rows of memory that was there, which row a variable is. -/
structure Cfg where
  P : Program
  F : Facts
  X : Nat → List SV
  gx : Nat → Option Nat
  S : Nat → List Summ

structure Ok (C : Cfg) (B : Base) (D : Den) : Prop where
  sat : Sat D.env C.F
  base : BaseOk B D
  X : B.X = C.X
  gx : ∀ g i, C.gx g = some i → i < 1000 ∧ D.xi i = ⟨g, 0, none⟩
  closed : Closed0 C.X
  sums : ∀ g, ∀ m ∈ C.S g, SumOk C.P C.X C.gx g m

/-- 's' comes to V in every world, and leaves it. -/
def Gives (P : Program) {α : Type} (s : Sem α) (a : α) : Prop := ∀ w, s.run P w = .ok a w

theorem Gives.bind {P : Program} {α β : Type} {s : Sem α} {f : α → Sem β} {a : α} {b : β} (h : Gives P s a) (h' : Gives P (f a) b) : Gives P (s >>= f) b := fun w => by
  rw [Sem.run_bind, h w, Result.andThen_ok, h' w]
theorem Gives.pure {P : Program} {α : Type} (a : α) : Gives P (Pure.pure a : Sem α) a := fun _ => rfl

def szT (C : Cfg) (t : TypeId) : R Nat := match C.P.info? t with
  | some i => .ok i.size
  | none => .fail "size"
def undT (C : Cfg) (t : TypeId) : R TypeDesc := match C.P.underlying t with
  | some d => .ok d
  | none => .fail "underlying"
def aggD : TypeDesc → Bool
  | .struct _ => true
  | .array _ _ => true
  | _ => false
theorem szT_ok {C : Cfg} {t : TypeId} {n : Nat} (h : szT C t = .ok n) : Gives C.P (sizeOf t) n := by
  unfold szT at h
  split at h
  · rename_i i hi
    simp only [R.ok.injEq] at h
    intro w
    simp [sizeOf, typeInfo, hi, h]
  · simp at h
theorem undT_ok {C : Cfg} {t : TypeId} {d : TypeDesc} (h : undT C t = .ok d) : C.P.underlying t = some d := by
  unfold undT at h
  split at h
  · rename_i i hi; simp only [R.ok.injEq] at h; rw [hi, h]
  · simp at h
theorem und_gives {P : Program} {t : TypeId} {d : TypeDesc} (h : P.underlying t = some d) : Gives P (underlying t) d := run_underlying h
theorem agg_gives {P : Program} {t : TypeId} {d : TypeDesc} (h : P.underlying t = some d) : Gives P (isAgg t) (aggD d) := by
  intro w
  simp only [isAgg, Sem.run_bind, run_underlying h, Result.andThen_ok]
  cases d <;> rfl

/-- A part of an aggregate. -/
def partS (C : Cfg) (t : TypeId) (cs : List SV) (off : Nat) : R SV := (undT C t).bind fun d => match aggD d with
  | true => (szT C t).bind fun n => .ok (.agg ((cs.drop off).take n))
  | false => match cs[off]? with
    | some v => .ok v
    | none => .fail "part"
theorem partS_ok {C : Cfg} {D : Den} {μ : Mu} {t : TypeId} {cs : List SV} {off : Nat} {v : SV} {xs : List Value} (hd : SV.denL D μ cs = some xs) (h : partS C t cs off = .ok v) :
    ∃ V, v.den D μ = some V ∧ Gives C.P (part t xs.toArray off) V := by
  obtain ⟨d, hu, h⟩ := R.bind_ok h
  have hu := undT_ok hu
  split at h
  · rename_i ha
    obtain ⟨n, hn, h⟩ := R.bind_ok h
    simp only [R.ok.injEq] at h
    subst h
    refine ⟨.agg ((xs.drop off).take n).toArray, by simp [SV.den, denL_take n (denL_drop off hd)], fun w => ?_⟩
    have e : xs.toArray.extract off (off + n) = ((xs.drop off).take n).toArray := by
      rw [List.extract_toArray, List.extract_eq_take_drop]; congr 2; omega
    simp only [part, Sem.run_bind, agg_gives hu w, Result.andThen_ok, ha, if_true, szT_ok hn w, e]
    rfl
  · rename_i ha
    split at h
    · rename_i u hu'
      simp only [R.ok.injEq] at h
      subst h
      obtain ⟨V, hV, hx⟩ := denL_get hd hu'
      refine ⟨V, hV, fun w => ?_⟩
      simp only [part, Sem.run_bind, agg_gives hu w, Result.andThen_ok, ha]
      simp [hx]
    · simp at h

/-- Equality: the parts in their order, up to the first that differs. -/
def eqArr (C : Cfg) (f : SV → SV → R Bool) (e : TypeId) (sz : Nat) (xs ys : List SV) : Nat → Nat → R Bool
  | 0, _ => .ok true
  | c + 1, i => (partS C e xs (i * sz)).bind fun a => (partS C e ys (i * sz)).bind fun b => (f a b).bind fun r => match r with
    | true => eqArr C f e sz xs ys c (i + 1)
    | false => .ok false
def eqFs (C : Cfg) (f : TypeId → SV → SV → R Bool) (xs ys : List SV) : List Field → R Bool
  | [] => .ok true
  | fd :: fs => R.then (fd.name != "_") "a blank field" ((partS C fd.type xs fd.offset).bind fun a => (partS C fd.type ys fd.offset).bind fun b => (f fd.type a b).bind fun r => match r with
    | true => eqFs C f xs ys fs
    | false => .ok false)
def eqS (C : Cfg) : Nat → TypeId → SV → SV → R Bool
  | 0, _, _, _ => .fail "equality: depth"
  | d + 1, t, x, y => (undT C t).bind fun td => match td with
    | .int _ => match x, y with
      | .int k p, .int l q => R.then (Nat.beq (kidx k) (kidx l)) "kinds" (decEq C.F (Poly.minus p q))
      | _, _ => .fail "equality: ints"
    | .bool => match x, y with
      | .bool a, .bool b => .ok (a == b)
      | _, _ => .fail "equality: bools"
    | .array n e => match x, y with
      | .agg xs, .agg ys => (szT C e).bind fun sz => eqArr C (eqS C d e) e sz xs ys n 0
      | _, _ => .fail "equality: arrays"
    | .struct fs => match x, y with
      | .agg xs, .agg ys => R.then (!C.P.stoodInHeld t) "stood in" (eqFs C (eqS C d) xs ys fs.toList)
      | _, _ => .fail "equality: structs"
    | _ => .fail "equality: this type"

theorem forIn_range_sem {β : Type} (n : Nat) (init : β) (f : Nat → β → Sem (ForInStep β)) :
    (forIn [0:n] init f : Sem β) = forIn (List.range' 0 n) init f := by
  rw [Std.Legacy.Range.forIn_eq_forIn_range']
  simp [Std.Legacy.Range.size]

theorem eqArr_ok {C : Cfg} {D : Den} {μ : Mu} {f : SV → SV → R Bool} {g : Value → Value → Sem Bool} {e : TypeId} {sz : Nat} {xs ys : List SV} {X Y : List Value}
    (hx : SV.denL D μ xs = some X) (hy : SV.denL D μ ys = some Y)
    (hf : ∀ a b V W r, a.den D μ = some V → b.den D μ = some W → f a b = .ok r → Gives C.P (g V W) r) :
    ∀ (c i : Nat) (r : Bool), eqArr C f e sz xs ys c i = .ok r →
    Gives C.P (forIn (List.range' i c) ((none, ()) : Option Bool × Unit) (fun i _ => (do
      let a ← part e X.toArray (i * sz)
      let b ← part e Y.toArray (i * sz)
      let q ← g a b
      if (!q) = true then pure (ForInStep.done (some false, ())) else pure (ForInStep.yield (none, ())) : Sem (ForInStep (Option Bool × Unit))))) (if r then (none, ()) else (some false, ()))
  | 0, i, r, h => by
    simp only [eqArr, R.ok.injEq] at h
    subst h
    exact Gives.pure _
  | c + 1, i, r, h => by
    simp only [eqArr] at h
    obtain ⟨a, ha, h⟩ := R.bind_ok h
    obtain ⟨b, hb, h⟩ := R.bind_ok h
    obtain ⟨q, hq, h⟩ := R.bind_ok h
    obtain ⟨V, hV, g1⟩ := partS_ok hx ha
    obtain ⟨W, hW, g2⟩ := partS_ok hy hb
    have g3 := hf a b V W q hV hW hq
    intro w
    simp only [List.range'_succ, List.forIn_cons, Sem.run_bind, g1 w, g2 w, g3 w, Result.andThen_ok]
    cases q
    · simp only [R.ok.injEq] at h
      subst h
      simp
    · have ih := eqArr_ok hx hy hf c (i + 1) r h w
      simp only [Bool.not_true, Bool.false_eq_true, if_false, Sem.run_pure, Result.andThen_ok]
      exact ih
theorem eqFs_ok {C : Cfg} {D : Den} {μ : Mu} {f : TypeId → SV → SV → R Bool} {n : Nat} {xs ys : List SV} {X Y : List Value}
    (hx : SV.denL D μ xs = some X) (hy : SV.denL D μ ys = some Y)
    (hf : ∀ t a b V W r, a.den D μ = some V → b.den D μ = some W → f t a b = .ok r → Gives C.P (Op.equalIn n t V W) r) :
    ∀ (fs : List Field) (r : Bool), eqFs C f xs ys fs = .ok r → Gives C.P (Op.eqFields n X.toArray Y.toArray fs) r
  | [], r, h => by
    simp only [eqFs, R.ok.injEq] at h
    subst h
    exact Gives.pure _
  | fd :: fs, r, h => by
    simp only [eqFs] at h
    obtain ⟨hn, h⟩ := R.then_ok h
    obtain ⟨a, ha, h⟩ := R.bind_ok h
    obtain ⟨b, hb, h⟩ := R.bind_ok h
    obtain ⟨q, hq, h⟩ := R.bind_ok h
    obtain ⟨V, hV, g1⟩ := partS_ok hx ha
    obtain ⟨W, hW, g2⟩ := partS_ok hy hb
    have g3 := hf _ a b V W q hV hW hq
    intro w
    have hn' : fd.name ≠ "_" := by simpa using hn
    simp only [Op.eqFields, if_pos hn', Sem.run_bind, g1 w, g2 w, g3 w, Result.andThen_ok]
    cases q
    · simp only [R.ok.injEq] at h
      subst h
      simp
    · have ih := eqFs_ok hx hy hf fs r h w
      simpa using ih

theorem eqS_ok {C : Cfg} {D : Den} {μ : Mu} (hs : Sat D.env C.F) : ∀ (d m : Nat) (t : TypeId) (x y : SV) (V W : Value) (r : Bool), d ≤ m → x.den D μ = some V → y.den D μ = some W → eqS C d t x y = .ok r → Gives C.P (Op.equalIn m t V W) r := by
  intro d
  induction d with
  | zero => intro m t x y V W r _ _ _ h; simp [eqS] at h
  | succ d ih =>
    intro m t x y V W r hm hV hW h
    obtain ⟨m, rfl⟩ : ∃ k, m = k + 1 := ⟨m - 1, by omega⟩
    simp only [eqS] at h
    obtain ⟨td, hu0, h0⟩ := R.bind_ok h
    have hu := undT_ok hu0
    replace h := h0
    clear h0 hu0
    split at h
    · rename_i k0
      split at h
      · rename_i k p l q
        obtain ⟨hk, hq⟩ := R.then_ok h
        clear h
        obtain rfl := kidx_inj (beq_iff.1 hk)
        simp only [SV.den, Option.some.injEq] at hV hW
        subst hV hW
        intro w
        rw [run_equalIn_int w m t k k0 _ _ hu]
        have := decEq_ok hs hq
        rw [Poly.ev_minus] at this
        congr 1
        rw [← this]
        by_cases e : Poly.ev D.env p = Poly.ev D.env q
        · simp [e]
        · have e2 : ¬ Poly.ev D.env p - Poly.ev D.env q = 0 := by omega
          simp [e, e2]
      · simp at h
    · split at h
      · rename_i a b
        simp only [R.ok.injEq] at h
        simp only [SV.den, Option.some.injEq] at hV hW
        subst hV hW h
        intro w
        rw [run_equalIn_bool w m t a b hu]
      · simp at h
    · rename_i n e
      split at h
      · rename_i xs ys
        obtain ⟨sz, hsz, h⟩ := R.bind_ok h
        simp only [SV.den, Option.map_eq_some_iff] at hV hW
        obtain ⟨X, hX, rfl⟩ := hV
        obtain ⟨Y, hY, rfl⟩ := hW
        have g := eqArr_ok (C := C) (e := e) (sz := sz) (f := eqS C d e) (g := Op.equalIn m e) hX hY (fun a b V W r h1 h2 h3 => ih m e a b V W r (by omega) h1 h2 h3) n 0 r h
        intro w
        have g := g w
        simp only [Op.equalIn, Sem.run_bind, run_underlying hu, Result.andThen_ok, szT_ok hsz w]
        rw [forIn_range_sem]
        rw [g]
        cases r <;> rfl
      · simp at h
    · rename_i fs
      split at h
      · rename_i xs ys
        obtain ⟨hst, h⟩ := R.then_ok h
        simp only [SV.den, Option.map_eq_some_iff] at hV hW
        obtain ⟨X, hX, rfl⟩ := hV
        obtain ⟨Y, hY, rfl⟩ := hW
        have hf : C.P.fieldsOf t = fs := by simp [Program.fieldsOf, hu]
        have g := eqFs_ok (C := C) (n := m) (f := eqS C d) hX hY (fun t a b V W r h1 h2 h3 => ih m t a b V W r (by omega) h1 h2 h3) fs.toList r h
        intro w
        rw [run_equalIn_struct w m t X.toArray Y.toArray (by rw [hf]; exact hu) (by simpa using hst), hf]
        exact g w
      · simp at h
    · simp at h

end Go.Sym

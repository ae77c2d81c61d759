/- SymGo, part 13: the arguments and the laid variables of a law, read off their types; what a row asks of a call that leaves all as it was and answers true. -/
import Derived.Test.YtjghifocfjbmcabDoorSym12
import Derived.OpenShut
import Derived.ProofKit
import Derived.MakeChecks
import Derived.LaidLaws
import Derived.LaidMore
import Derived.Carry
import Derived.ChangeOld
namespace Go.Sym
open Go.RowKit Go.ChangeShapes

/-! ### The cells of a type that is made of integers -/
def kindsF (P : Program) (r : TypeId → Option (List IntKind)) : Nat → List Field → Option (List IntKind)
  | _, [] => some []
  | o, f :: fs => match r f.type with
    | some l => match Nat.beq f.offset o && Nat.beq l.length (P.cellsOf f.type) with
      | true => (kindsF P r (o + l.length) fs).map (l ++ ·)
      | false => none
    | none => none
def kindsT (P : Program) : Nat → TypeId → Option (List IntKind)
  | 0, _ => none
  | n + 1, t => match P.underlying t with
    | some (.int k) => some [k]
    | some (.array m e) => match kindsT P n e with
      | some l => match Nat.beq l.length (P.cellsOf e) && Nat.beq (m * l.length) (P.cellsOf t) with
        | true => some (List.replicate m l).flatten
        | false => none
      | none => none
    | some (.struct fs) => match kindsF P (kindsT P n) 0 fs.toList with
      | some l => match Nat.beq l.length (P.cellsOf t) with
        | true => some l
        | false => none
      | none => none
    | _ => none

def Fits : List IntKind → List Value → List Int → Prop
  | [], [], [] => True
  | k :: ks, c :: cs, z :: zs => c = .int k z ∧ k.min ≤ z ∧ z ≤ k.max ∧ Fits ks cs zs
  | _, _, _ => False
theorem Fits.append : ∀ {ks : List IntKind} {cs : List Value} {zs : List Int} {ks' : List IntKind} {cs' : List Value} {zs' : List Int}, Fits ks cs zs → Fits ks' cs' zs' → Fits (ks ++ ks') (cs ++ cs') (zs ++ zs')
  | [], [], [], _, _, _, _, h => h
  | _ :: _, _ :: _, _ :: _, _, _, _, h, h' => ⟨h.1, h.2.1, h.2.2.1, Fits.append h.2.2.2 h'⟩
  | [], [], _ :: _, _, _, _, h, _ => h.elim
  | [], _ :: _, _, _, _, _, h, _ => h.elim
  | _ :: _, [], _, _, _, _, h, _ => h.elim
  | _ :: _, _ :: _, [], _, _, _, h, _ => h.elim
theorem Fits.length : ∀ {ks : List IntKind} {cs : List Value} {zs : List Int}, Fits ks cs zs → cs.length = ks.length ∧ zs.length = ks.length
  | [], [], [], _ => ⟨rfl, rfl⟩
  | _ :: _, _ :: _, _ :: _, h => by have := Fits.length h.2.2.2; simp [this.1, this.2]
  | [], [], _ :: _, h => h.elim
  | [], _ :: _, _, h => h.elim
  | _ :: _, [], _, h => h.elim
  | _ :: _, _ :: _, [], h => h.elim
theorem Fits.get : ∀ {ks : List IntKind} {cs : List Value} {zs : List Int}, Fits ks cs zs → ∀ (j : Nat) (k : IntKind), ks[j]? = some k → ∃ z, zs[j]? = some z ∧ cs[j]? = some (.int k z) ∧ k.min ≤ z ∧ z ≤ k.max
  | _ :: _, _ :: _, _ :: _, h, 0, k, e => by
    simp only [List.getElem?_cons_zero, Option.some.injEq] at e
    subst e
    exact ⟨_, rfl, by simp [h.1], h.2.1, h.2.2.1⟩
  | _ :: _, _ :: _, _ :: _, h, j + 1, k, e => by
    simp only [List.getElem?_cons_succ] at e ⊢
    exact Fits.get h.2.2.2 j k e
  | [], _, _, _, _, _, e => by simp at e
  | _ :: _, [], _, h, _, _, _ => h.elim
  | _ :: _, _ :: _, [], h, _, _, _ => h.elim

mutual
def flatD {H : Type} : DataW H → List Int
  | .lit (.int _ n) => [n]
  | .agg l => flatDs l
  | _ => []
def flatDs {H : Type} : List (DataW H) → List Int
  | [] => []
  | d :: l => flatD d ++ flatDs l
end

section
variable {H : Type} {enc : TypeId × Value → H} {P : Program} {w : World} {base : Nat} {spare : Nat → Bool} {held : Bool}

theorem fits_array {l : List IntKind} {s : Nat} (hs : l.length = s) : ∀ (xs : List (DataW H × List MemPlace)) (cs : List Value), cs.length = xs.length * s →
    (∀ (i : Nat) x, xs[i]? = some x → Fits l ((cs.drop (i * s)).take s) (flatD x.1)) → Fits (List.replicate xs.length l).flatten cs (flatDs (xs.map (·.1)))
  | [], cs, hl, _ => by
    have : cs = [] := by simpa using hl
    subst this
    trivial
  | x :: xs, cs, hl, h => by
    have h0 := h 0 x rfl
    have ih := fits_array hs xs (cs.drop s) (by simp only [List.length_drop, hl, List.length_cons, Nat.add_mul, Nat.one_mul]; omega) fun i y hy => by
      have := h (i + 1) y (by simpa using hy)
      rw [List.drop_drop]
      rw [show s + i * s = (i + 1) * s by rw [Nat.add_mul]; omega]
      exact this
    simp only [Nat.zero_mul, List.drop_zero] at h0
    have := Fits.append h0 ih
    rw [List.take_append_drop] at this
    simpa [List.replicate_succ, flatDs] using this

theorem fits_fields {r : TypeId → Option (List IntKind)} {m : Nat} (hr : ∀ t ks cs x, r t = some ks → DataW.trod enc P w base spare held m t cs = some x → Fits ks cs (flatD x.1)) {cs : List Value} :
    ∀ (fs : List Field) (o : Nat) (ks : List IntKind) (xs : List (DataW H × List MemPlace)), kindsF P r o fs = some ks → xs.length = fs.length →
    (∀ (i : Nat) f, fs[i]? = some f → DataW.trod enc P w base spare held m f.type ((cs.drop f.offset).take (P.cellsOf f.type)) = xs[i]?) → Fits ks ((cs.drop o).take ks.length) (flatDs (xs.map (·.1)))
  | [], o, ks, xs, hk, hl, _ => by
    simp only [kindsF, Option.some.injEq] at hk
    subst hk
    have : xs = [] := by simpa using hl
    subst this
    simp [Fits, flatDs]
  | f :: fs, o, ks, [], hk, hl, h => by simp at hl
  | f :: fs, o, ks, x :: xs, hk, hl, h => by
    simp only [kindsF] at hk
    split at hk
    · rename_i l hrl
      split at hk
      · rename_i hb
        rw [Bool.and_eq_true] at hb
        have ho := Nat.eq_of_beq_eq_true hb.1
        have hlen := Nat.eq_of_beq_eq_true hb.2
        simp only [Option.map_eq_some_iff] at hk
        obtain ⟨ks', hk', rfl⟩ := hk
        have h0 := h 0 f rfl
        simp only [List.getElem?_cons_zero, ho, ← hlen] at h0
        have h1 := hr _ _ _ _ hrl h0
        have h2 := fits_fields hr fs (o + l.length) ks' xs hk' (by simpa using hl) fun i g hg => by simpa using h (i + 1) g (by simpa using hg)
        rw [List.length_append, List.take_add, List.drop_drop]
        exact Fits.append h1 h2
      · simp at hk
    · simp at hk

theorem kindsT_fits : ∀ (n : Nat) (t : TypeId) (ks : List IntKind) (fuel : Nat) (cs : List Value) (x : DataW H × List MemPlace), kindsT P n t = some ks → DataW.trod enc P w base spare held fuel t cs = some x → Fits ks cs (flatD x.1)
  | 0, _, _, _, _, _, hk, _ => by simp [kindsT] at hk
  | n + 1, t, ks, fuel, cs, x, hk, h => by
    simp only [kindsT] at hk
    split at hk
    · rename_i k hu
      obtain ⟨z, rfl, rfl, hw⟩ := DataW.trod_int hu h
      simp only [Option.some.injEq] at hk
      subst hk
      simp only [Lit.wf, Bool.and_eq_true, decide_eq_true_eq] at hw
      exact ⟨rfl, hw.1, hw.2, trivial⟩
    · rename_i m e hu
      split at hk
      · rename_i l hl
        split at hk
        · rename_i hb
          rw [Bool.and_eq_true] at hb
          have hb1 := Nat.eq_of_beq_eq_true hb.1
          have hb2 := Nat.eq_of_beq_eq_true hb.2
          simp only [Option.some.injEq] at hk
          subst hk
          obtain ⟨xs, fuel', rfl, rfl, hlen, hxs, hel⟩ := DataW.trod_array hu h
          have hz : ∀ (i : Nat) x, xs[i]? = some x → Fits l ((cs.drop (i * P.cellsOf e)).take (P.cellsOf e)) (flatD x.1) := fun i x hx => by
            have hi : i < m := by rw [← hxs]; exact (List.getElem?_eq_some_iff.1 hx).1
            exact kindsT_fits n e l fuel' _ x hl (by rw [hel i hi, hx])
          simp only [flatD]
          have hcs : cs.length = xs.length * P.cellsOf e := by
            rw [hlen, ← hb2, hxs, hb1]
          have := fits_array hb1 xs cs hcs hz
          rw [hxs] at this
          exact this
        · simp at hk
      · simp at hk
    · rename_i fs hu
      split at hk
      · rename_i l hl
        split at hk
        · rename_i hb
          have hb := Nat.eq_of_beq_eq_true hb
          simp only [Option.some.injEq] at hk
          subst hk
          obtain ⟨xs, fuel', rfl, rfl, hlen, hxs, hel⟩ := DataW.trod_struct hu h
          have := fits_fields (cs := cs) (fun t ks cs x hk hx => kindsT_fits n t ks fuel' cs x hk hx) fs.toList 0 l xs hl (by simpa using hxs) fun i f hf => hel i f (by simpa using hf)
          rw [List.drop_zero, hb, ← hlen, List.take_length] at this
          simpa [flatD] using this
        · simp at hk
      · simp at hk
    · simp at hk
end

/-! ### Arguments -/
def varsS : Nat → List IntKind → List SV
  | _, [] => []
  | k, c :: ks => .int c (Poly.atom (.var k)) :: varsS (k + 1) ks
theorem varsS_den {D : Den} {μ : Mu} : ∀ {ks : List IntKind} {cs : List Value} {zs : List Int} (k : Nat), Fits ks cs zs → (∀ j z, zs[j]? = some z → D.env.v (k + j) = z) → SV.denL D μ (varsS k ks) = some cs
  | [], [], [], _, _, _ => rfl
  | c :: ks, v :: cs, z :: zs, k, h, he => by
    have h0 : D.env.v k = z := he 0 z rfl
    have ih := varsS_den (D := D) (μ := μ) (k + 1) h.2.2.2 fun j y hy => by
      have := he (j + 1) y (by simpa using hy)
      rwa [Nat.add_assoc, Nat.add_comm 1 j]
    have h1 : (E.var k).ev D.env = z := h0
    simp only [varsS, SV.denL, SV.den, Poly.ev_atom, h1, ih, h.1, Option.bind_some, Option.map_some]
  | [], [], _ :: _, _, h, _ => h.elim
  | [], _ :: _, _, _, h, _ => h.elim
  | _ :: _, [], _, _, h, _ => h.elim
  | _ :: _, _ :: _, [], _, h, _ => h.elim

def argS (P : Program) (t : TypeId) (k : Nat) (ks : List IntKind) : Option SV := match P.underlying t with
  | some (.int c) => some (.int c (Poly.atom (.var k)))
  | some (.array _ _) => some (.agg (varsS k ks))
  | some (.struct _) => some (.agg (varsS k ks))
  | _ => none
def argsS (P : Program) (n : Nat) : Nat → List TypeId → Option (List SV × List IntKind)
  | _, [] => some ([], [])
  | k, t :: ts => match kindsT P n t with
    | none => none
    | some ks => match argS P t k ks with
      | none => none
      | some a => match argsS P n (k + ks.length) ts with
        | none => none
        | some (as, l) => some (a :: as, ks ++ l)

section
variable {H : Type} {enc : TypeId × Value → H} {P : Program} {w : World} {spare : Nat → Bool} {held : Bool}

theorem argS_den {n : Nat} {t : TypeId} {ks : List IntKind} {k : Nat} {a : SV} {v : Value} {d : DataW H} {p : List MemPlace} {r : Reach} {base b0 : Nat} (hk : kindsT P n t = some ks) (ha : argS P t k ks = some a)
    (hd : DataW.Trod enc P w b0 spare held t v d p) (hv : Value.okWide P w r base t v) :
    ∃ cs zs, Fits ks cs zs ∧ ∀ (D : Den) (μ : Mu), (∀ j z, zs[j]? = some z → D.env.v (k + j) = z) → a.den D μ = some v := by
  obtain ⟨fuel, hf⟩ := hd
  have hfit := kindsT_fits n t ks fuel _ _ hk hf
  refine ⟨_, _, hfit, fun D μ he => ?_⟩
  have hden := varsS_den (D := D) (μ := μ) k hfit he
  simp only [argS] at ha
  split at ha
  · rename_i c hu
    simp only [Option.some.injEq] at ha
    subst ha
    obtain ⟨z, hc, hx, _⟩ := DataW.trod_int hu hf
    obtain ⟨m, rfl⟩ : ∃ m, v = .int c m := by
      cases v <;> simp_all [Value.okWide, Cell.okWide, Cell.ok, Value.cells]
    simp only [Prod.mk.injEq] at hx
    have hz : z = m := by simpa [Value.cells] using hc.symm
    subst hz
    simp only [hx.1, flatD] at he
    have h1 : (E.var k).ev D.env = z := he 0 z rfl
    simp only [SV.den, Poly.ev_atom, h1]
  · rename_i m e hu
    simp only [Option.some.injEq] at ha
    subst ha
    obtain ⟨cs, rfl, _⟩ : ∃ cs, v = .agg cs ∧ True := by
      simp only [Value.okWide, hu] at hv
      obtain ⟨cs, rfl, _⟩ := hv
      exact ⟨cs, rfl, trivial⟩
    simp only [SV.den, hden, Option.map_some, Value.cells]
  · rename_i fs hu
    simp only [Option.some.injEq] at ha
    subst ha
    obtain ⟨cs, rfl, _⟩ : ∃ cs, v = .agg cs ∧ True := by
      simp only [Value.okWide, hu] at hv
      obtain ⟨cs, rfl, _⟩ := hv
      exact ⟨cs, rfl, trivial⟩
    simp only [SV.den, hden, Option.map_some, Value.cells]
  · simp at ha

theorem argsS_den {n : Nat} {r : Reach} {base b0 : Nat} : ∀ (ts : List TypeId) (k : Nat) (as : List SV) (l : List IntKind) (vs : List Value) (ds : List (DataW H)) (p : List MemPlace), argsS P n k ts = some (as, l) →
    DataW.TrodAll enc P w b0 spare held ts vs ds p → (∀ (j : Nat) t v, ts[j]? = some t → vs[j]? = some v → Value.okWide P w r base t v) →
    ∃ cs zs, Fits l cs zs ∧ ∀ (D : Den) (μ : Mu), (∀ j z, zs[j]? = some z → D.env.v (k + j) = z) → SV.denL D μ as = some vs
  | [], k, as, l, [], [], p, ha, _, _ => by
    simp only [argsS, Option.some.injEq, Prod.mk.injEq] at ha
    obtain ⟨rfl, rfl⟩ := ha
    exact ⟨[], [], trivial, fun _ _ _ => rfl⟩
  | t :: ts, k, as, l, v :: vs, d :: ds, p, ha, hd, hv => by
    obtain ⟨p1, p2, h1, h2, _⟩ := hd
    simp only [argsS] at ha
    split at ha
    · simp at ha
    · rename_i ks hk
      split at ha
      · simp at ha
      · rename_i a haa
        split at ha
        · simp at ha
        · rename_i as' l' hrec
          simp only [Option.some.injEq, Prod.mk.injEq] at ha
          obtain ⟨rfl, rfl⟩ := ha
          obtain ⟨cs, zs, hf, hden⟩ := argS_den hk haa h1 (hv 0 t v rfl rfl)
          obtain ⟨cs', zs', hf', hden'⟩ := argsS_den ts _ as' l' vs ds p2 hrec h2 fun j t v ht hv' => hv (j + 1) t v (by simpa using ht) (by simpa using hv')
          refine ⟨cs ++ cs', zs ++ zs', hf.append hf', fun D μ he => ?_⟩
          have e1 := hden D μ fun j z hz => he j z (by rw [List.getElem?_append_left (List.getElem?_eq_some_iff.1 hz).1]; exact hz)
          have e2 := hden' D μ fun j z hz => by
            rw [Nat.add_assoc]
            refine he _ z ?_
            rw [List.getElem?_append_right (by rw [hf.length.2]; omega), hf.length.2, Nat.add_sub_cancel_left]
            exact hz
          simp only [SV.denL, e1, e2, Option.bind_some, Option.map_some]
  | [], _, _, _, _ :: _, _, _, _, h, _ => h.elim
  | [], _, _, _, [], _ :: _, _, _, h, _ => h.elim
  | _ :: _, _, _, _, [], _, _, _, h, _ => h.elim
  | _ :: _, _, _, _, _ :: _, [], _, _, h, _ => h.elim
end

end Go.Sym

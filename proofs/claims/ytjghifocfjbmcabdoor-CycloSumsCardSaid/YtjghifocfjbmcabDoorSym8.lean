/- SymGo, part 8: one operation after the other: what a step of the run is, and that it is sound. -/
import Derived.Test.YtjghifocfjbmcabDoorSymA
import Derived.Orders
import Derived.LoopN
namespace Go.Sym

inductive SExit where
  | normal
  | exit (id : Nat)
  | ret

/-- What a call comes to: a parameter of the steps. -/
abbrev CallF := FuncId → List SV → St → R (SV × St)

def evO (C : Cfg) (T : Tree SV) : Operand → R SV
  | .tmp t => match T.get t with
    | some v => .ok v
    | none => .fail "a slot that is not known"
  | .const v => .ok (ofVal v)
  | .global g => match C.gx g with
    | some i => .ok (.xptr i 0)
    | none => .fail "a variable that is not known"
  | .func f => .ok (.func f [] [])

/-- The frame is as the symbolic state says. -/
structure ARep (D : Den) (μ : Mu) (nt : Nat) (T : Tree SV) (a : Act) : Prop where
  size : a.tmps.size = nt
  defers : a.defers = []
  tmps : ∀ t v, T.get t = some v → ∃ V, v.den D μ = some V ∧ a.tmps[t]? = some V

theorem ARep.mono {D : Den} {μ ν : Mu} {nt : Nat} {T : Tree SV} {a : Act} (h : ARep D μ nt T a) (hm : MuLe μ ν) : ARep D ν nt T a :=
  ⟨h.size, h.defers, fun t v hv => by obtain ⟨V, h1, h2⟩ := h.tmps t v hv; exact ⟨V, SV.den_mono hm v h1, h2⟩⟩

/-- The slots that an operand may name are as known. -/
theorem evO_of {C : Cfg} {B : Base} {D : Den} {μ : Mu} (hC : Ok C B D) {T : Tree SV} {a : Act} (h : ∀ t v, T.get t = some v → ∃ V, v.den D μ = some V ∧ a.tmps[t]? = some V) {x : Operand} {v : SV} (hv : evO C T x = .ok v) :
    v.den D μ = some (a.eval x) := by
  cases x with
  | tmp t =>
    simp only [evO] at hv
    split at hv
    · rename_i u hu
      simp only [R.ok.injEq] at hv
      subst hv
      obtain ⟨V, h1, h2⟩ := h t u hu
      rw [h1]
      simp [Act.eval, h2]
    · simp at hv
  | const v =>
    simp only [evO, R.ok.injEq] at hv
    subst hv
    exact ofVal_den D μ v
  | global g =>
    simp only [evO] at hv
    split at hv
    · rename_i i hi
      simp only [R.ok.injEq] at hv
      subst hv
      simp [SV.den, Act.eval, hC.gx g i hi]
    · simp at hv
  | func f =>
    simp only [evO, R.ok.injEq] at hv
    subst hv
    simp [SV.den, SV.denL, Act.eval]

def undefS : SV := .raw (.tuple #[])
def putS (nt : Nat) (T : Tree SV) (dst : Option Tmp) (v : SV) : R (Tree SV) := match dst with
  | none => .ok T
  | some d => R.then (Nat.blt d nt) "slot" (.ok (T.set d v))
theorem putS_get {nt : Nat} {T T' : Tree SV} {dst : Option Tmp} {v : SV} (h : putS nt T dst v = .ok T') (t : Nat) : T'.get t = if dst = some t then some v else T.get t := by
  cases dst with
  | none => simp only [putS, R.ok.injEq] at h; subst h; simp
  | some d =>
    simp only [putS] at h
    obtain ⟨_, h1⟩ := R.then_ok h
    simp only [R.ok.injEq] at h1
    subst h1
    rw [Tree.get_set]
    by_cases e : t = d
    · subst e; simp
    · have : ¬ (some d = some t) := fun h => e (by cases h; rfl)
      rw [if_neg e, if_neg this]
theorem putS_lt {nt : Nat} {T T' : Tree SV} {d : Tmp} {v : SV} (h : putS nt T (some d) v = .ok T') : d < nt := by
  obtain ⟨h1, _⟩ := R.then_ok h
  exact blt_iff.1 h1
theorem put_get (a : Act) (dst : Option Tmp) (V : Value) (t : Nat) (ht : ∀ d, dst = some d → d < a.tmps.size) : (a.put dst V).tmps[t]? = if dst = some t then some V else a.tmps[t]? := by
  cases dst with
  | none => simp [Act.put]
  | some d =>
    have := ht d rfl
    simp only [Act.put, Array.getElem?_setIfInBounds]
    by_cases e : d = t
    · subst e; simp [this]
    · have : ¬ (some d = some t) := fun h => e (by cases h; rfl)
      rw [if_neg e, if_neg this]
theorem ARep.put {D : Den} {μ : Mu} {nt : Nat} {T T' : Tree SV} {a : Act} (h : ARep D μ nt T a) {dst : Option Tmp} {v : SV} {V : Value} (hv : v.den D μ = some V) (hp : putS nt T dst v = .ok T') :
    ARep D μ nt T' (a.put dst V) := by
  refine ⟨?_, ?_, fun t u hu => ?_⟩
  · cases dst <;> simp [Act.put, h.size]
  · cases dst <;> simp [Act.put, h.defers]
  · rw [put_get a dst V t (fun d hd => by subst hd; rw [h.size]; exact putS_lt hp)]
    rw [putS_get hp] at hu
    split at hu
    · rename_i e
      cases hu
      exact ⟨V, hv, by rw [if_pos e]⟩
    · rename_i e
      rw [if_neg e]
      exact h.tmps t u hu

inductive Cls where
  | quiet
  | load
  | alloc
  | eff
  deriving DecidableEq

def cls : Op → Cls
  | .load _ _ => .load
  | .alloc _ => .alloc
  | .store _ _ _ => .eff
  | .box _ _ => .eff
  | .buildSlice _ _ _ => .eff
  | .makeSlice _ _ _ => .eff
  | .call c => match c.callee with
    | .builtin .len => .quiet
    | .builtin .min => .quiet
    | .builtin .max => .quiet
    | _ => .eff
  | _ => .quiet

/-- A function that a call may enter: it has a body, and is not answered by the model itself. -/
def funOk (C : Cfg) (g : FuncId) : Bool := match C.P.funcs[g]? with
  | some fn => fn.body.isSome && !(fn.name == "runtime.NumGoroutine")
  | none => false

/-- The operations that write, make memory or call. -/
def effS (call : CallF) (C : Cfg) (ev : Operand → R SV) (s : St) (o : Oper) : R (SV × St) := match o.op with
  | .store t x y => (ev x).bind fun a => (ev y).bind fun b => (storeS C s t a b).bind fun s' => .ok (undefS, s')
  | .box _ x => (ev x).bind fun a => boxS s a
  | .buildSlice t len parts => (evParts ev parts.toList).bind fun ps => buildSliceS C s t len ps
  | .makeSlice t l c => (ev l).bind fun a => (ev c).bind fun b => makeS C s t a b
  | .call c => match c.callee with
    | .value f => (ev f).bind fun g => match g with
      | .func g first captured => (evL ev c.args.toList).bind fun args => R.then (funOk C g) "call: no body" (call g (first ++ args ++ captured) s)
      | _ => .fail "call: no function"
    | .builtin .append => match c.args.toList, c.argTypes.toList with
      | [x, y], [t, u] => (ev x).bind fun a => (ev y).bind fun b => appendS C s t u a b
      | _, _ => .fail "append: arguments"
    | _ => .fail "call: builtin"
  | _ => .fail "no operation of this kind"

/-- What is asked of the calls. -/
def CallOk (C : Cfg) (B : Base) (D : Den) (call : CallF) : Prop := ∀ g args s v s', call g args s = .ok (v, s') → ∀ μ w ARGS, SV.denL D μ args = some ARGS → Rep B D μ s w →
  Calls C.P g ARGS.toArray w fun e w' => ∃ ν V, Ext s s' μ ν ∧ e = .returned V ∧ v.den D ν = some V ∧ Rep B D ν s' w'

theorem effS_ok {C : Cfg} {B : Base} {D : Den} {μ : Mu} (hC : Ok C B D) {call : CallF} (hcall : CallOk C B D call) {ev : Operand → R SV} {a : Act} (he : EvOk D μ ev a) {s s' : St} {w : World}
    (hr : Rep B D μ s w) {o : Oper} {v : SV} (h : effS call C ev s o = .ok (v, s')) {K : Act → World → Prop} {Q : Exit → Act → World → Prop}
    (hK : ∀ ν V w', Ext s s' μ ν → v.den D ν = some V → Rep B D ν s' w' → K (a.put o.dst V) w') : o.wp C.P a w K Q := by
  obtain ⟨dst, op, type, pos, after, guard⟩ := o
  unfold effS at h
  unfold Oper.wp
  cases op <;> simp only [] at h
  case store t x y =>
    obtain ⟨u, hu, h1⟩ := R.bind_ok h
    obtain ⟨z, hz, h2⟩ := R.bind_ok h1
    obtain ⟨s1, hs1, h3⟩ := R.bind_ok h2
    simp only [R.ok.injEq, Prod.mk.injEq] at h3
    obtain ⟨rfl, rfl⟩ := h3
    obtain ⟨w', hw', hr'⟩ := storeS_ok hr (he x u hu) (he y z hz) hs1
    have : (execOp a.eval ⟨dst, .store t x y, type, pos, after, guard⟩).run C.P w = .ok .skip w' := by
      simp only [execOp, Sem.run_bind, hw', Result.andThen_ok, Sem.run_pure]
    rw [this]
    have hn : s1.n = s.n := by
      unfold storeS at hs1
      split at hs1
      · split at hs1
        · obtain ⟨_, _, h5⟩ := R.bind_ok hs1
          obtain ⟨_, h6⟩ := R.then_ok h5
          simp only [R.ok.injEq] at h6
          rw [← h6]
        · simp at hs1
      · simp at hs1
    exact hK μ undef w' ⟨by omega, MuLe.refl _, fun _ _ => rfl⟩ rfl hr'
  case box t x =>
    obtain ⟨u, hu, h1⟩ := R.bind_ok h
    obtain ⟨V, ν, w', h2, h3, h4, h5⟩ := boxS_ok (P := C.P) (t := t) hr (he x u hu) h1
    have : (execOp a.eval ⟨dst, .box t x, type, pos, after, guard⟩).run C.P w = .ok (.value V) w' := by
      simp only [execOp, Sem.run_bind, h4, Result.andThen_ok, Sem.run_pure]
    rw [this]
    exact hK ν V w' h2 h3 h5
  case buildSlice t len parts =>
    obtain ⟨ps, hp, h1⟩ := R.bind_ok h
    obtain ⟨h2, h3⟩ := evParts_ok he hp
    obtain ⟨V, ν, w', h4, h5, h6, h7⟩ := buildSliceS_ok hr h3 h2 h1
    have e : (List.map (fun x => match x with | (i, x) => (i, a.eval x)) parts.toList).toArray = parts.map (fun x => match x with | (i, x) => (i, a.eval x)) := by apply Array.ext'; simp
    rw [e] at h6
    have : (execOp a.eval ⟨dst, .buildSlice t len parts, type, pos, after, guard⟩).run C.P w = .ok (.value V) w' := by
      simp only [execOp, Sem.run_bind, h6, Result.andThen_ok, Sem.run_pure]
    rw [this]
    exact hK ν V w' h4 h5 h7
  case makeSlice t l c =>
    obtain ⟨X, hX, h1⟩ := R.bind_ok h
    obtain ⟨Y, hY, h2⟩ := R.bind_ok h1
    obtain ⟨V, ν, w', h3, h4, h5, h6⟩ := makeS_ok hC hr (he l X hX) (he c Y hY) h2
    have : (execOp a.eval ⟨dst, .makeSlice t l c, type, pos, after, guard⟩).run C.P w = .ok (.value V) w' := by
      simp only [execOp, Sem.run_bind, h5, Result.andThen_ok, Sem.run_pure]
    rw [this]
    exact hK ν V w' h3 h4 h6
  case call c =>
    obtain ⟨callee, args, argTypes⟩ := c
    simp only [] at h
    split at h
    · rename_i f
      obtain ⟨g, hg, h1⟩ := R.bind_ok h
      split at h1
      · rename_i g first captured
        obtain ⟨as, has, h2⟩ := R.bind_ok h1
        obtain ⟨hf, h3⟩ := R.then_ok h2
        have hgd := he f _ hg
        simp only [SV.den, Option.bind_eq_some_iff, Option.map_eq_some_iff] at hgd
        obtain ⟨X, hX, Y, hY, hval⟩ := hgd
        have hA := evL_ok he has
        have hall : SV.denL D μ (first ++ as ++ captured) = some (X ++ args.toList.map a.eval ++ Y) := denL_append (denL_append hX hA) hY
        unfold funOk at hf
        split at hf
        · rename_i fn hfn
          simp only [Bool.and_eq_true, Bool.not_eq_true'] at hf
          have : (execOp a.eval ⟨dst, .call ⟨.value f, args, argTypes⟩, type, pos, after, guard⟩).run C.P w = .ok (.enter g (X ++ args.toList.map a.eval ++ Y).toArray) w := by
            have hn : fn.body.isNone = false := by have := hf.1; cases hb : fn.body <;> simp_all
            have ea : X.toArray ++ Array.map a.eval args ++ Y.toArray = (X ++ args.toList.map a.eval ++ Y).toArray := by
              apply Array.ext'; simp
            simp only [execOp, resolve, ← hval, Deferred.ofValue, Sem.run_bind, Sem.run_pure, Result.andThen_ok, invoke, callFunc, run_program, hfn, hf.2, Bool.false_eq_true, if_false, hn, ea]
          rw [this]
          refine Calls.mono (hcall g _ s v s' h3 μ w _ hall hr) fun e w' he' => ?_
          obtain ⟨ν, V, h4, rfl, h5, h6⟩ := he'
          exact hK ν V w' h4 h5 h6
        · simp at hf
      · simp at h1
    · split at h
      · rename_i x y t u hargs htys
        obtain ⟨X, hX, h1⟩ := R.bind_ok h
        obtain ⟨Y, hY, h2⟩ := R.bind_ok h1
        obtain ⟨V, ν, w', h3, h4, h5, h6⟩ := appendS_ok (ty := type) hC hr (he x X hX) (he y Y hY) h2
        have ea : args = #[x, y] := by apply Array.ext'; simpa using hargs
        have et : argTypes = #[t, u] := by apply Array.ext'; simpa using htys
        have : (execOp a.eval ⟨dst, .call ⟨.builtin .append, args, argTypes⟩, type, pos, after, guard⟩).run C.P w = .ok (.value V) w' := by
          unfold execOp
          simp only [ea, et, resolve, invoke, builtin, Sem.run_bind, Sem.run_pure, Result.andThen_ok, List.map_toArray, List.map_cons, List.map_nil, h5]
        rw [this]
        exact hK ν V w' h3 h4 h6
      · simp at h
    · simp at h
  all_goals simp at h

/-- Is the operation wanted? -/
def wantS (ops : Array Oper) (T : Tree SV) (o : Oper) : R Bool := match o.guard with
  | none => .ok true
  | some (j, want) => match (ops[j]?).bind (·.dst) with
    | some t => match T.get t with
      | some (.bool b) => .ok (b == want)
      | some (.raw (.tuple _)) => .ok false
      | _ => .fail "guard"
    | none => .fail "guard: slot"
theorem wantS_ok {ops : Array Oper} {T : Tree SV} {o : Oper} {b : Bool} {D : Den} {μ : Mu} {a : Act} (h : wantS ops T o = .ok b)
    (ht : ∀ j want t v, o.guard = some (j, want) → (ops[j]?).bind (·.dst) = some t → T.get t = some v → ∃ V, v.den D μ = some V ∧ a.tmps[t]? = some V) :
    Region.wanted o (yielded ops a.tmps) = b := by
  unfold wantS at h
  unfold Region.wanted
  cases hg : o.guard with
  | none => rw [hg] at h; simp only [R.ok.injEq] at h; subst h; rfl
  | some g =>
    obtain ⟨j, want⟩ := g
    rw [hg] at h
    simp only [] at h
    split at h
    · rename_i t hd
      split at h
      · rename_i c hc
        simp only [R.ok.injEq] at h
        obtain ⟨V, hV, hat⟩ := ht j want t _ hg hd hc
        simp only [SV.den, Option.some.injEq] at hV
        subst hV
        simp only [yielded, hd, Option.bind_some, hat]
        rw [← h]
        cases c <;> cases want <;> rfl
      · rename_i x hx
        simp only [R.ok.injEq] at h
        obtain ⟨V, hV, hat⟩ := ht j want t _ hg hd hx
        simp only [SV.den, Option.some.injEq] at hV
        subst hV
        simp only [yielded, hd, Option.bind_some, hat]
        rw [← h]
        cases want <;> rfl
      · simp at h
    · simp at h

/-- A step of a region: the value for its slot, and the state. -/
def valS (call : CallF) (C : Cfg) (ev : Operand → R SV) (s : St) (o : Oper) : R (SV × St) := match cls o.op with
  | .quiet => (pop C ev o).bind fun v => .ok (v, s)
  | .load => match o.op with
    | .load t x => (ev x).bind fun a => (loadS C s t a).bind fun v => .ok (v, s)
    | _ => .fail "load"
  | .alloc => match o.op with
    | .alloc t => allocS C s t
    | _ => .fail "alloc"
  | .eff => effS call C ev s o
theorem valS_ok {C : Cfg} {B : Base} {D : Den} {μ : Mu} (hC : Ok C B D) {call : CallF} (hcall : CallOk C B D call) {ev : Operand → R SV} {a : Act} (he : EvOk D μ ev a) {s s' : St} {w : World}
    (hr : Rep B D μ s w) {o : Oper} {v : SV} (h : valS call C ev s o = .ok (v, s')) {K : Act → World → Prop} {Q : Exit → Act → World → Prop}
    (hK : ∀ ν V w', Ext s s' μ ν → v.den D ν = some V → Rep B D ν s' w' → K (a.put o.dst V) w') : o.wp C.P a w K Q := by
  unfold valS at h
  split at h
  · obtain ⟨u, hu, h1⟩ := R.bind_ok h
    simp only [R.ok.injEq, Prod.mk.injEq] at h1
    obtain ⟨rfl, rfl⟩ := h1
    obtain ⟨V, hV, g⟩ := pop_ok hC.sat he hu
    unfold Oper.wp
    rw [g w]
    exact hK μ V w (Ext.refl _ _) hV hr
  · split at h
    · rename_i t x hop
      obtain ⟨u, hu, h1⟩ := R.bind_ok h
      obtain ⟨z, hz, h2⟩ := R.bind_ok h1
      simp only [R.ok.injEq, Prod.mk.injEq] at h2
      obtain ⟨rfl, rfl⟩ := h2
      obtain ⟨V, hV, g⟩ := loadS_ok hC hr (he x u hu) hz
      unfold Oper.wp
      have : (execOp a.eval o).run C.P w = .ok (.value V) w := by
        simp only [execOp, hop, Sem.run_bind, g, Result.andThen_ok, Sem.run_pure]
      rw [this]
      exact hK μ V w (Ext.refl _ _) hV hr
    · simp at h
  · split at h
    · rename_i t hop
      obtain ⟨V, ν, w', h2, h3, h4, h5⟩ := allocS_ok hr h
      unfold Oper.wp
      have : (execOp a.eval o).run C.P w = .ok (.value V) w' := by
        simp only [execOp, hop, Sem.run_bind, h4, Result.andThen_ok, Sem.run_pure]
      rw [this]
      exact hK ν V w' h2 h3 h5
    · simp at h
  · exact effS_ok hC hcall he hr h hK

def opS (call : CallF) (C : Cfg) (nt : Nat) (ops : Array Oper) (o : Oper) (T : Tree SV) (s : St) : R (Tree SV × St) := (wantS ops T o).bind fun b => match b with
  | true => (valS call C (evO C T) s o).bind fun r => (putS nt T o.dst r.1).bind fun T' => .ok (T', r.2)
  | false => (putS nt T o.dst undefS).bind fun T' => .ok (T', s)
theorem opS_ok {C : Cfg} {B : Base} {D : Den} {μ : Mu} (hC : Ok C B D) {call : CallF} (hcall : CallOk C B D call) {nt : Nat} {ops : Array Oper} {o : Oper} {i : Nat} (hi : ops[i]? = some o) {T T' : Tree SV} {s s' : St} {a : Act} {w : World}
    (ha : ARep D μ nt T a) (hr : Rep B D μ s w) (h : opS call C nt ops o T s = .ok (T', s')) {K : Act → World → Prop} {Q : Exit → Act → World → Prop}
    (hK : ∀ ν a' w', Ext s s' μ ν → ARep D ν nt T' a' → Rep B D ν s' w' → K a' w') : wpOp C.P ops Q i K a w := by
  obtain ⟨b, hb, h1⟩ := R.bind_ok h
  have hw := wantS_ok (D := D) (μ := μ) (a := a) hb fun j want t v _ _ hv => ha.tmps t v hv
  unfold wpOp
  simp only [hi, hw]
  split at h1
  · obtain ⟨r, hv, h2⟩ := R.bind_ok h1
    obtain ⟨T1, hp, h3⟩ := R.bind_ok h2
    simp only [R.ok.injEq, Prod.mk.injEq] at h3
    obtain ⟨rfl, rfl⟩ := h3
    simp only [if_true]
    exact .inl (valS_ok hC hcall (fun x v hv => evO_of hC ha.tmps hv) hr hv fun ν V w' h4 h5 h6 => hK ν _ w' h4 ((ha.mono h4.le).put h5 hp) h6)
  · obtain ⟨T1, hp, h3⟩ := R.bind_ok h1
    simp only [R.ok.injEq, Prod.mk.injEq] at h3
    obtain ⟨rfl, rfl⟩ := h3
    simp only [Bool.false_eq_true, if_false]
    exact hK μ _ w (Ext.refl _ _) (ha.put (v := undefS) rfl hp) hr

/-- The operations of a region in the text's order. -/
def opsS (call : CallF) (C : Cfg) (nt : Nat) (ops : Array Oper) : List Oper → Tree SV → St → R (Tree SV × St)
  | [], T, s => .ok (T, s)
  | o :: r, T, s => (opS call C nt ops o T s).bind fun x => opsS call C nt ops r x.1 x.2
theorem opsS_ok {C : Cfg} {B : Base} {D : Den} (hC : Ok C B D) {call : CallF} (hcall : CallOk C B D call) {nt : Nat} {ops : Array Oper} {Q : Exit → Act → World → Prop} {T' : Tree SV} {s' : St} :
    ∀ (rest : List Oper) (k : Nat), ops.toList.drop k = rest → ∀ (μ : Mu) (T : Tree SV) (s : St) (a : Act) (w : World), ARep D μ nt T a → Rep B D μ s w → opsS call C nt ops rest T s = .ok (T', s') →
    (∀ ν a' w', Ext s s' μ ν → ARep D ν nt T' a' → Rep B D ν s' w' → Q .normal a' w') → wpOps C.P ops Q (List.range' k rest.length) a w
  | [], k, _, μ, T, s, a, w, ha, hr, h, hK => by
    simp only [opsS, R.ok.injEq, Prod.mk.injEq] at h
    obtain ⟨rfl, rfl⟩ := h
    exact hK μ a w (Ext.refl _ _) ha hr
  | o :: r, k, hd, μ, T, s, a, w, ha, hr, h, hK => by
    simp only [opsS] at h
    obtain ⟨x, hx, h1⟩ := R.bind_ok h
    have hi : ops[k]? = some o := by
      have : (ops.toList.drop k)[0]? = some o := by rw [hd]; rfl
      simpa using this
    have hd' : ops.toList.drop (k + 1) = r := by rw [← List.tail_drop, hd]; rfl
    rw [List.length_cons, List.range'_succ, wpOps_cons]
    refine opS_ok hC hcall hi ha hr hx fun ν a' w' h2 h3 h4 => ?_
    exact opsS_ok hC hcall r (k + 1) hd' ν x.1 x.2 a' w' h3 h4 h1 fun κ a2 w2 h5 h6 h7 => hK κ a2 w2 (h2.trans h5) h6 h7
theorem region_ok {C : Cfg} {B : Base} {D : Den} (hC : Ok C B D) {call : CallF} (hcall : CallOk C B D call) {nt id : Nat} {ops : Array Oper} {Q : Exit → Act → World → Prop} {μ : Mu} {T T' : Tree SV} {s s' : St} {a : Act} {w : World}
    (ha : ARep D μ nt T a) (hr : Rep B D μ s w) (h : opsS call C nt ops ops.toList T s = .ok (T', s'))
    (hK : ∀ ν a' w', Ext s s' μ ν → ARep D ν nt T' a' → Rep B D ν s' w' → Q .normal a' w') : (Code.region id ops false).wp C.P Q a w := by
  refine wp_region ?_
  have := opsS_ok hC hcall (Q := Q) ops.toList 0 rfl μ T s a w ha hr h hK
  rw [List.range_eq_range']
  simpa using this

end Go.Sym

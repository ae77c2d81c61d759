/- SymGo, part 6: literals, slice expressions, len, min and max; and all the quiet operations under one name. -/
import Derived.Test.YtjghifocfjbmcabDoorSym5
namespace Go.Sym

/-- The zero value's cells. -/
def zeroS (C : Cfg) (t : TypeId) : R (List SV) := match C.P.info? t with
  | some i => match i.zero with
    | some z => .ok (ofCells z.cells.toList)
    | none => .fail "zero"
  | none => .fail "zero: type"
theorem zeroS_ok {C : Cfg} {D : Den} {μ : Mu} {t : TypeId} {l : List SV} (h : zeroS C t = .ok l) :
    ∃ z, SV.denL D μ l = some z.cells.toList ∧ Gives C.P (zeroValue t) z := by
  unfold zeroS at h
  split at h
  · rename_i i hi
    split at h
    · rename_i z hz
      simp only [R.ok.injEq] at h
      subst h
      exact ⟨z, ofCells_den D μ _, fun w => by simp [zeroValue, typeInfo, hi, hz]⟩
    · simp at h
  · simp at h

def setAll : List SV → Nat → List SV → List SV
  | cs, _, [] => cs
  | cs, o, v :: l => setAll (cs.set o v) (o + 1) l
def setAllV : List Value → Nat → List Value → List Value
  | cs, _, [] => cs
  | cs, o, v :: l => setAllV (cs.set o v) (o + 1) l
theorem setAll_den {D : Den} {μ : Mu} : ∀ {l cs : List SV} {o : Nat} {L X : List Value}, SV.denL D μ cs = some X → SV.denL D μ l = some L → SV.denL D μ (setAll cs o l) = some (setAllV X o L)
  | [], cs, o, L, X, h, h' => by simp [SV.denL] at h'; subst h'; exact h
  | v :: l, cs, o, L, X, h, h' => by
    simp only [SV.denL, Option.map_eq_some_iff, Option.bind_eq_some_iff] at h'
    obtain ⟨x, hx, y, hy, rfl⟩ := h'
    show SV.denL D μ (setAll (cs.set o v) (o + 1) l) = some (setAllV (X.set o x) (o + 1) y)
    exact setAll_den (denL_set o h hx) hy
theorem setAllV_length : ∀ (l cs : List Value) (o : Nat), (setAllV cs o l).length = cs.length
  | [], cs, o => rfl
  | v :: l, cs, o => by simp [setAllV, setAllV_length l]
theorem foldl_set (off : Nat) : ∀ (l : List Value) (k : Nat) (cs : List Value),
    ((l.zipIdx k).foldl (fun (cs : Array Value) (x : Value × Nat) => cs.setIfInBounds (off + x.2) x.1) cs.toArray) = (setAllV cs (off + k) l).toArray
  | [], k, cs => rfl
  | v :: l, k, cs => by
    simp only [List.zipIdx_cons, List.foldl_cons, List.setIfInBounds_toArray, setAllV]
    rw [foldl_set off l (k + 1)]
    rfl

def fillS (place : Nat → R (Nat × Nat)) : List SV → List (Nat × SV) → R (List SV)
  | cs, [] => .ok cs
  | cs, (i, v) :: r => (place i).bind fun p => R.then (Nat.beq v.cells.length p.2 && Nat.ble (p.1 + p.2) cs.length) "fill" (fillS place (setAll cs p.1 v.cells) r)
/-- A list of parts and what it stands for. -/
def denParts (D : Den) (μ : Mu) : List (Nat × SV) → Option (List (Nat × Value))
  | [] => some []
  | (i, v) :: r => (v.den D μ).bind fun x => (denParts D μ r).map fun y => (i, x) :: y
def rawAgg : SV → Bool
  | .raw (.agg _) => true
  | _ => false
theorem rawAgg_no {v : SV} (h : rawAgg v = false) : ∀ c, v ≠ .raw (.agg c) := fun c e => by subst e; simp [rawAgg] at h
theorem fillS_ok {D : Den} {μ : Mu} {place : Nat → R (Nat × Nat)} {pl : Nat → Option (Nat × Nat)} (hp : ∀ i p, place i = .ok p → pl i = some p) :
    ∀ (parts : List (Nat × SV)) (cs cs' : List SV) (X : List Value) (L : List (Nat × Value)), (∀ x ∈ parts, rawAgg x.2 = false) → SV.denL D μ cs = some X → denParts D μ parts = some L → fillS place cs parts = .ok cs' →
    ∃ Y, SV.denL D μ cs' = some Y ∧ Instr.fill pl X.toArray L = some Y.toArray
  | [], cs, cs', X, L, _, h, h', hf => by
    simp only [fillS, R.ok.injEq] at hf
    simp only [denParts, Option.some.injEq] at h'
    subst hf h'
    exact ⟨X, h, rfl⟩
  | (i, v) :: r, cs, cs', X, L, hr, h, h', hf => by
    simp only [denParts, Option.map_eq_some_iff, Option.bind_eq_some_iff] at h'
    obtain ⟨x, hx, y, hy, rfl⟩ := h'
    simp only [fillS] at hf
    obtain ⟨p, hp1, hf1⟩ := R.bind_ok hf
    obtain ⟨hc, hf2⟩ := R.then_ok hf1
    simp only [Bool.and_eq_true] at hc
    have hl := beq_iff.1 hc.1
    have hb : p.1 + p.2 ≤ cs.length := by simpa using hc.2
    have hcells := cells_den hx (rawAgg_no (hr (i, v) List.mem_cons_self))
    have hlen := denL_length hcells
    have hlen2 := denL_length h
    obtain ⟨Y, hY, hfill⟩ := fillS_ok hp r _ cs' _ y (fun x hx => hr x (List.mem_cons_of_mem _ hx)) (setAll_den h hcells) hy hf2
    refine ⟨Y, hY, ?_⟩
    simp only [Instr.fill, hp i p hp1]
    have e1 : x.cells.size = p.2 := by rw [← hl, ← hlen]; simp
    have e2 : ¬ (p.1 + x.cells.size > X.toArray.size) := by simp; omega
    simp only [e1, ne_eq, not_true_eq_false, decide_false, Bool.false_or, decide_eq_true_eq]
    rw [if_neg (by simpa [e1] using e2)]
    have := foldl_set p.1 x.cells.toList 0 X
    rw [Nat.add_zero] at this
    rw [← Array.foldl_toList, Array.toList_zipIdx]
    rw [this]
    exact hfill

/-- The operands of a list, in their order. -/
def evL (ev : Operand → R SV) : List Operand → R (List SV)
  | [] => .ok []
  | x :: l => (ev x).bind fun v => (evL ev l).bind fun r => .ok (v :: r)
def evParts (ev : Operand → R SV) : List (Nat × Operand) → R (List (Nat × SV))
  | [] => .ok []
  | (i, x) :: l => (ev x).bind fun v => R.then (!rawAgg v) "a constant aggregate as a part" ((evParts ev l).bind fun r => .ok ((i, v) :: r))
/-- What evaluating an operand says of the frame. -/
def EvOk (D : Den) (μ : Mu) (ev : Operand → R SV) (a : Act) : Prop := ∀ x v, ev x = .ok v → v.den D μ = some (a.eval x)
theorem evL_ok {D : Den} {μ : Mu} {ev : Operand → R SV} {a : Act} (he : EvOk D μ ev a) : ∀ {l : List Operand} {r : List SV}, evL ev l = .ok r → SV.denL D μ r = some (l.map a.eval)
  | [], r, h => by simp only [evL, R.ok.injEq] at h; subst h; rfl
  | x :: l, r, h => by
    simp only [evL] at h
    obtain ⟨v, hv, h1⟩ := R.bind_ok h
    obtain ⟨q, hq, h2⟩ := R.bind_ok h1
    simp only [R.ok.injEq] at h2
    subst h2
    simp [SV.denL, he x v hv, evL_ok he hq]
theorem evParts_ok {D : Den} {μ : Mu} {ev : Operand → R SV} {a : Act} (he : EvOk D μ ev a) : ∀ {l : List (Nat × Operand)} {r : List (Nat × SV)}, evParts ev l = .ok r →
    denParts D μ r = some (l.map fun (i, x) => (i, a.eval x)) ∧ ∀ x ∈ r, rawAgg x.2 = false
  | [], r, h => by simp only [evParts, R.ok.injEq] at h; subst h; exact ⟨rfl, fun x hx => by simp at hx⟩
  | (i, x) :: l, r, h => by
    simp only [evParts] at h
    obtain ⟨v, hv, h1⟩ := R.bind_ok h
    obtain ⟨hr, h3⟩ := R.then_ok h1
    obtain ⟨q, hq, h2⟩ := R.bind_ok h3
    simp only [R.ok.injEq] at h2
    subst h2
    obtain ⟨h4, h5⟩ := evParts_ok he hq
    refine ⟨by simp [denParts, he x v hv, h4], fun y hy => ?_⟩
    rcases List.mem_cons.1 hy with rfl | hy
    · simpa using hr
    · exact h5 y hy

def fieldPlaces (C : Cfg) (fs : Array Field) (i : Nat) : R (Nat × Nat) := match fs[i]? with
  | some f => (szT C f.type).bind fun n => .ok (f.offset, n)
  | none => .fail "build: field"
/-- All the sizes of a struct's fields are known. -/
def sizesOk (C : Cfg) : List Field → Bool
  | [] => true
  | f :: fs => match C.P.info? f.type with
    | some _ => sizesOk C fs
    | none => false
theorem mapM_sizes {C : Cfg} : ∀ (fs : List Field), sizesOk C fs = true → Gives C.P (fs.mapM fun f => do pure (f.offset, ← sizeOf f.type)) (fs.map fun f => (f.offset, C.P.cellsOf f.type))
  | [], _ => fun w => by simp
  | f :: fs, h => by
    simp only [sizesOk] at h
    split at h
    · rename_i i hi
      intro w
      have ih := mapM_sizes fs h w
      have hz : (sizeOf f.type).run C.P w = .ok i.size w := by simp [sizeOf, typeInfo, hi]
      simp only [List.mapM_cons, Sem.run_bind, hz, Result.andThen_ok, Sem.run_pure, ih, List.map_cons]
      simp [Program.cellsOf, hi]
    · simp at h

def buildS (C : Cfg) (t : TypeId) (parts : List (Nat × SV)) : R SV := (zeroS C t).bind fun z => (undT C t).bind fun d => match d with
  | .struct fs => R.then (sizesOk C fs.toList) "build: sizes" ((fillS (fieldPlaces C fs) z parts).bind fun cs => .ok (.agg cs))
  | .array _ e => (szT C e).bind fun n => (fillS (fun i => .ok (i * n, n)) z parts).bind fun cs => .ok (.agg cs)
  | _ => .fail "build"
theorem buildS_ok {C : Cfg} {D : Den} {μ : Mu} {t : TypeId} {parts : List (Nat × SV)} {v : SV} {L : List (Nat × Value)} (hr : ∀ x ∈ parts, rawAgg x.2 = false) (hL : denParts D μ parts = some L)
    (h : buildS C t parts = .ok v) : ∃ V, v.den D μ = some V ∧ Gives C.P (Instr.build t L.toArray) V := by
  obtain ⟨z, hz, h1⟩ := R.bind_ok h
  obtain ⟨d, hu0, h2⟩ := R.bind_ok h1
  have hu := undT_ok hu0
  clear h h1 hu0
  obtain ⟨Z, hZ, gZ⟩ := zeroS_ok (D := D) (μ := μ) hz
  split at h2
  · rename_i fs
    obtain ⟨hs, h3⟩ := R.then_ok h2
    obtain ⟨cs, hf, h4⟩ := R.bind_ok h3
    simp only [R.ok.injEq] at h4
    subst h4
    have hm := mapM_sizes fs.toList hs
    obtain ⟨Y, hY, hfill⟩ := fillS_ok (pl := fun i => (fs.toList.map fun f => (f.offset, C.P.cellsOf f.type)).toArray[i]?) (fun i p hp => by
      unfold fieldPlaces at hp
      split at hp
      · rename_i f hfi
        obtain ⟨n, hn, h5⟩ := R.bind_ok hp
        simp only [R.ok.injEq] at h5
        subst h5
        have : C.P.cellsOf f.type = n := by
          unfold szT at hn
          split at hn
          · rename_i i hi; simp only [R.ok.injEq] at hn; simp [Program.cellsOf, hi, hn]
          · simp at hn
        simp [hfi, this]
      · simp at hp) parts z cs _ L hr hZ hL hf
    refine ⟨.agg Y.toArray, by simp [SV.den, hY], fun w => ?_⟩
    simp only [Instr.build, Sem.run_bind, gZ w, Result.andThen_ok, run_underlying hu, Array.mapM_eq_mapM_toList, Sem.run_map, hm w]
    simp only [Array.toArray_toList] at hfill
    simp only [hfill]
    rfl
  · rename_i n0 e
    obtain ⟨n, hn, h3⟩ := R.bind_ok h2
    obtain ⟨cs, hf, h4⟩ := R.bind_ok h3
    simp only [R.ok.injEq] at h4
    subst h4
    obtain ⟨Y, hY, hfill⟩ := fillS_ok (pl := fun i => some (i * n, n)) (fun i p hp => by simp only [R.ok.injEq] at hp; rw [hp]) parts z cs _ L hr hZ hL hf
    refine ⟨.agg Y.toArray, by simp [SV.den, hY], fun w => ?_⟩
    simp only [Array.toArray_toList] at hfill
    simp only [Instr.build, Sem.run_bind, gZ w, Result.andThen_ok, run_underlying hu, szT_ok hn w, hfill]
    rfl
  · simp at h2

/-- A bound of a slice expression. -/
def boundS (C : Cfg) (x : SV) (n : Nat) : R Nat := indexS C x (n + 1)
theorem boundS_ok {C : Cfg} {D : Den} {μ : Mu} (hs : Sat D.env C.F) {x : SV} {n j : Nat} {X : Value} {c : BoundsCode} (hx : x.den D μ = some X) (h : boundS C x n = .ok j) :
    j ≤ n ∧ Gives C.P (Instr.sliceBound X n c) j := by
  obtain ⟨k, rfl, hlt⟩ := indexS_ok hs hx h
  refine ⟨by omega, fun w => ?_⟩
  have : (0 : Int) ≤ j ∧ (j : Int) ≤ n := ⟨by omega, by omega⟩
  simp [Instr.sliceBound, asIntOf, this]
def boundsS (C : Cfg) (len cap : Nat) (lo hi mx : Option SV) : R (Nat × Nat × Nat) :=
  (match mx with
   | some v => boundS C v cap
   | none => .ok cap : R Nat).bind fun m =>
  (match hi, mx with
   | some v, _ => boundS C v m
   | none, none => .ok len
   | none, some _ => .fail "slice" : R Nat).bind fun h =>
  (match lo with
   | some v => boundS C v h
   | none => .ok 0 : R Nat).bind fun l => .ok (l, h, m)
/-- An optional operand and what it stands for. -/
def denO (D : Den) (μ : Mu) : Option SV → Option (Option Value)
  | none => some none
  | some v => (v.den D μ).map some
theorem boundsS_ok {C : Cfg} {D : Den} {μ : Mu} (hs : Sat D.env C.F) {b : Bool} {len cap : Nat} {lo hi mx : Option SV} {L H M : Option Value} {r : Nat × Nat × Nat}
    (hl : denO D μ lo = some L) (hh : denO D μ hi = some H) (hm : denO D μ mx = some M) (h : boundsS C len cap lo hi mx = .ok r) : Gives C.P (Instr.sliceBounds b len cap L H M) r := by
  unfold boundsS at h
  obtain ⟨m, h1, h2⟩ := R.bind_ok h
  obtain ⟨hv, h3, h4⟩ := R.bind_ok h2
  obtain ⟨l, h5, h6⟩ := R.bind_ok h4
  clear h h2 h4
  simp only [R.ok.injEq] at h6
  subst h6
  have bd : ∀ {u : SV} {U : Value} {n j : Nat} (c : BoundsCode) (w : World), u.den D μ = some U → boundS C u n = .ok j → (Instr.sliceBound U n c).run C.P w = .ok j w := fun c w h1 h2 => (boundS_ok hs h1 h2).2 w
  intro w
  have gm : ∀ {V : Value} {u : SV}, mx = some u → M = some V → ∀ c, (Instr.sliceBound V cap c).run C.P w = .ok m w := fun {V u} e1 e2 c => by
    subst e1 e2
    simp only [denO, Option.map_eq_some_iff] at hm
    obtain ⟨V', hV, e⟩ := hm
    cases e
    exact bd c w hV h1
  have gh : ∀ {V : Value} {u : SV}, hi = some u → H = some V → ∀ c, (Instr.sliceBound V m c).run C.P w = .ok hv w := fun {V u} e1 e2 c => by
    subst e1 e2
    simp only [denO, Option.map_eq_some_iff] at hh
    obtain ⟨V', hV, e⟩ := hh
    cases e
    exact bd c w hV h3
  have gl : ∀ {V : Value} {u : SV}, lo = some u → L = some V → ∀ c, (Instr.sliceBound V hv c).run C.P w = .ok l w := fun {V u} e1 e2 c => by
    subst e1 e2
    simp only [denO, Option.map_eq_some_iff] at hl
    obtain ⟨V', hV, e⟩ := hl
    cases e
    exact bd c w hV h5
  have none_of : ∀ {x : Option SV} {V : Option Value}, denO D μ x = some V → (x = none ∧ V = none) ∨ ∃ u U, x = some u ∧ V = some U := fun {x V} h => by
    cases x with
    | none => simp only [denO, Option.some.injEq] at h; exact .inl ⟨rfl, h.symm⟩
    | some u => simp only [denO, Option.map_eq_some_iff] at h; obtain ⟨U, _, rfl⟩ := h; exact .inr ⟨u, U, rfl, rfl⟩
  rcases none_of hm with ⟨rfl, rfl⟩ | ⟨um, Um, rfl, rfl⟩ <;> rcases none_of hh with ⟨rfl, rfl⟩ | ⟨uh, Uh, rfl, rfl⟩ <;> rcases none_of hl with ⟨rfl, rfl⟩ | ⟨ul, Ul, rfl, rfl⟩
  · simp only [R.ok.injEq] at h1 h3 h5
    subst h1 h3 h5
    simp [Instr.sliceBounds]
  · simp only [R.ok.injEq] at h1 h3
    subst h1 h3
    simp [Instr.sliceBounds, gl rfl rfl]
  · simp only [R.ok.injEq] at h1 h5
    subst h1 h5
    simp [Instr.sliceBounds, gh rfl rfl]
  · simp only [R.ok.injEq] at h1
    subst h1
    simp [Instr.sliceBounds, gh rfl rfl, gl rfl rfl]
  · simp at h3
  · simp at h3
  · simp only [R.ok.injEq] at h5
    subst h5
    simp [Instr.sliceBounds, gm rfl rfl, gh rfl rfl]
  · simp [Instr.sliceBounds, gm rfl rfl, gh rfl rfl, gl rfl rfl]

def newOff (off l m sz : Nat) : Nat := bif Nat.beq m l then off else off + l * sz
def sliceS (C : Cfg) (t : TypeId) (x : SV) (lo hi mx : Option SV) : R SV := (undT C t).bind fun d => match d with
  | .array n e => (boundsS C n n lo hi mx).bind fun b => (szT C e).bind fun sz => match x with
    | .ptr id off => .ok (.slice id (newOff off b.1 b.2.2 sz) (b.2.1 - b.1) (b.2.2 - b.1) false)
    | .xptr i off => .ok (.xslice i (newOff off b.1 b.2.2 sz) (b.2.1 - b.1) (b.2.2 - b.1))
    | _ => .fail "slice: array"
  | .slice e => match x with
    | .slice id off len cap false => (boundsS C len cap lo hi mx).bind fun b => (szT C e).bind fun sz => .ok (.slice id (newOff off b.1 b.2.2 sz) (b.2.1 - b.1) (b.2.2 - b.1) false)
    | .xslice i off len cap => (boundsS C len cap lo hi mx).bind fun b => (szT C e).bind fun sz => .ok (.xslice i (newOff off b.1 b.2.2 sz) (b.2.1 - b.1) (b.2.2 - b.1))
    | .raw (.slice none len cap) => (boundsS C len cap lo hi mx).bind fun b => (szT C e).bind fun _ => .ok (.raw (.slice none (b.2.1 - b.1) (b.2.2 - b.1)))
    | .aslice i len full => match lo, hi, mx with
      | none, some h, none => (boundS C h full).bind fun n => (szT C e).bind fun _ => .ok (.aslice i n full)
      | none, none, none => (szT C e).bind fun _ => .ok (.aslice i len full)
      | _, _, _ => .fail "slice: an argument's slice"
    | .oslice id len => match lo, hi, mx with
      | none, some h, none => (boundS C h len).bind fun n => (szT C e).bind fun _ => .ok (.oslice id n)
      | none, none, none => (szT C e).bind fun _ => .ok (.oslice id len)
      | _, _, _ => .fail "slice: a slice that has grown"
    | _ => .fail "slice: slice"
  | _ => .fail "slice: type"
theorem newOff_addr (b o l m sz : Nat) : (if m = l then (⟨b, o, none⟩ : Addr) else (⟨b, o, none⟩ : Addr).add (l * sz)) = ⟨b, newOff o l m sz, none⟩ := by
  unfold newOff
  by_cases e : m = l
  · rw [if_pos e, beq_iff.2 e]; rfl
  · rw [if_neg e, beq_false e, add_none]; rfl
theorem newOff_x (b q o l m sz : Nat) : (⟨b, newOff (q + o) l m sz, none⟩ : Addr) = ⟨b, q + newOff o l m sz, none⟩ := by
  unfold newOff
  cases Nat.beq m l <;> simp [Nat.add_assoc]
theorem sliceS_ok {C : Cfg} {D : Den} {μ : Mu} (hs : Sat D.env C.F) {t : TypeId} {x v : SV} {lo hi mx : Option SV} {X : Value} {L H M : Option Value} (hx : x.den D μ = some X)
    (hl : denO D μ lo = some L) (hh : denO D μ hi = some H) (hm : denO D μ mx = some M) (h : sliceS C t x lo hi mx = .ok v) :
    ∃ V, v.den D μ = some V ∧ Gives C.P (Instr.sliceAt t X L H M) V := by
  obtain ⟨d, hu0, h1⟩ := R.bind_ok h
  have hu := undT_ok hu0
  clear h hu0
  split at h1
  · rename_i n e
    obtain ⟨b, hb, h2⟩ := R.bind_ok h1
    obtain ⟨sz, hsz, h3⟩ := R.bind_ok h2
    have gb := boundsS_ok (b := false) hs hl hh hm hb
    split at h3
    · rename_i id off
      simp only [R.ok.injEq] at h3
      simp only [SV.den, Option.map_eq_some_iff] at hx
      obtain ⟨c, hc, rfl⟩ := hx
      subst h3
      refine ⟨.slice (some ⟨c.1, newOff off b.1 b.2.2 sz, none⟩) (b.2.1 - b.1) (b.2.2 - b.1), by simp [SV.den, hc], fun w => ?_⟩
      simp only [Instr.sliceAt, Sem.run_bind, run_underlying hu, Result.andThen_ok, Instr.sureAddr, Sem.run_pure, gb w, szT_ok hsz w, newOff_addr]
    · rename_i i off
      simp only [R.ok.injEq] at h3
      simp only [SV.den, Option.some.injEq] at hx
      subst hx h3
      refine ⟨_, rfl, fun w => ?_⟩
      simp only [Instr.sliceAt, Sem.run_bind, run_underlying hu, Result.andThen_ok, Instr.sureAddr, Sem.run_pure, gb w, szT_ok hsz w, newOff_addr, newOff_x]
    · simp at h3
  · rename_i e
    split at h1
    · rename_i id off len cap
      obtain ⟨b, hb, h2⟩ := R.bind_ok h1
      obtain ⟨sz, hsz, h3⟩ := R.bind_ok h2
      have gb := boundsS_ok (b := true) hs hl hh hm hb
      simp only [R.ok.injEq] at h3
      simp only [SV.den, Option.map_eq_some_iff] at hx
      obtain ⟨c, hc, rfl⟩ := hx
      subst h3
      refine ⟨.slice (some ⟨c.1, newOff off b.1 b.2.2 sz, none⟩) (b.2.1 - b.1) (b.2.2 - b.1), by simp [SV.den, hc], fun w => ?_⟩
      simp only [Instr.sliceAt, Instr.slice, Sem.run_bind, run_underlying hu, Result.andThen_ok, Sem.run_pure, gb w, szT_ok hsz w, Option.map_some, Bool.false_eq_true, if_false]
      rw [← newOff_addr]
      split <;> rfl
    · rename_i i off len cap
      obtain ⟨b, hb, h2⟩ := R.bind_ok h1
      obtain ⟨sz, hsz, h3⟩ := R.bind_ok h2
      have gb := boundsS_ok (b := true) hs hl hh hm hb
      simp only [R.ok.injEq] at h3
      simp only [SV.den, Option.some.injEq] at hx
      subst hx h3
      refine ⟨_, rfl, fun w => ?_⟩
      simp only [Instr.sliceAt, Instr.slice, Sem.run_bind, run_underlying hu, Result.andThen_ok, Sem.run_pure, gb w, szT_ok hsz w, Option.map_some]
      rw [← newOff_x, ← newOff_addr]
      split <;> rfl
    · rename_i len cap
      obtain ⟨b, hb, h2⟩ := R.bind_ok h1
      obtain ⟨sz, hsz, h3⟩ := R.bind_ok h2
      have gb := boundsS_ok (b := true) hs hl hh hm hb
      simp only [R.ok.injEq] at h3
      simp only [SV.den, Option.some.injEq] at hx
      subst hx h3
      refine ⟨_, rfl, fun w => ?_⟩
      simp only [Instr.sliceAt, Instr.slice, Sem.run_bind, run_underlying hu, Result.andThen_ok, Sem.run_pure, gb w, szT_ok hsz w, Option.map_none, ite_self]
    · rename_i i len full
      simp only [SV.den, Option.some.injEq] at hx
      subst hx
      split at h1
      · rename_i h'
        obtain ⟨n, hn, h2⟩ := R.bind_ok h1
        obtain ⟨sz, hsz, h3⟩ := R.bind_ok h2
        simp only [R.ok.injEq] at h3
        subst h3
        simp only [denO, Option.some.injEq, Option.map_eq_some_iff] at hl hh hm
        obtain ⟨V, hV, rfl⟩ := hh
        subst hl hm
        obtain ⟨k, rfl, hlt⟩ := indexS_ok hs hV hn
        refine ⟨_, rfl, fun w => ?_⟩
        have g : ∀ c, Gives C.P (Instr.sliceBound (.int k n) (full + (D.xs i).2) c) n := fun c w => by
          have : (0 : Int) ≤ n ∧ (n : Int) ≤ ((full + (D.xs i).2 : Nat) : Int) := ⟨by omega, by omega⟩
          simp only [Instr.sliceBound, asIntOf, Sem.run_bind, Sem.run_pure, Result.andThen_ok, this, and_self, if_true, Int.toNat_natCast]
        have gb : Gives C.P (Instr.sliceBounds true len (full + (D.xs i).2) none (some (.int k n)) none) (0, n, full + (D.xs i).2) := fun w => by
          simp [Instr.sliceBounds, g _ w]
        simp only [Instr.sliceAt, Instr.slice, Sem.run_bind, run_underlying hu, Result.andThen_ok, Sem.run_pure, gb w, szT_ok hsz w, Option.map_some, Nat.sub_zero, Nat.zero_mul, add_none, Nat.add_zero, ite_self]
      · obtain ⟨sz, hsz, h3⟩ := R.bind_ok h1
        simp only [R.ok.injEq] at h3
        subst h3
        simp only [denO, Option.some.injEq] at hl hh hm
        subst hl hh hm
        refine ⟨_, rfl, fun w => ?_⟩
        have gb : Gives C.P (Instr.sliceBounds true len (full + (D.xs i).2) none none none) (0, len, full + (D.xs i).2) := fun w => by
          simp [Instr.sliceBounds]
        simp only [Instr.sliceAt, Instr.slice, Sem.run_bind, run_underlying hu, Result.andThen_ok, Sem.run_pure, gb w, szT_ok hsz w, Option.map_some, Nat.sub_zero, Nat.zero_mul, add_none, Nat.add_zero, ite_self]
      · simp at h1
    · rename_i id len
      obtain ⟨b, hb, hlen, rfl⟩ := oslice_den hx
      split at h1
      · rename_i h'
        obtain ⟨n, hn, h2⟩ := R.bind_ok h1
        obtain ⟨sz, hsz, h3⟩ := R.bind_ok h2
        simp only [R.ok.injEq] at h3
        subst h3
        simp only [denO, Option.some.injEq, Option.map_eq_some_iff] at hl hh hm
        obtain ⟨V, hV, rfl⟩ := hh
        subst hl hm
        obtain ⟨k, rfl, hlt⟩ := indexS_ok hs hV hn
        refine ⟨_, oslice_mk hb (by omega), fun w => ?_⟩
        have g : ∀ c, Gives C.P (Instr.sliceBound (.int k n) b.2 c) n := fun c w => by
          have : (0 : Int) ≤ n ∧ (n : Int) ≤ ((b.2 : Nat) : Int) := ⟨by omega, by omega⟩
          simp only [Instr.sliceBound, asIntOf, Sem.run_bind, Sem.run_pure, Result.andThen_ok, this, and_self, if_true, Int.toNat_natCast]
        have gb : Gives C.P (Instr.sliceBounds true len b.2 none (some (.int k n)) none) (0, n, b.2) := fun w => by
          simp [Instr.sliceBounds, g _ w]
        simp only [Instr.sliceAt, Instr.slice, Sem.run_bind, run_underlying hu, Result.andThen_ok, Sem.run_pure, gb w, szT_ok hsz w, Option.map_some, Nat.sub_zero, Nat.zero_mul, add_none, Nat.add_zero, ite_self]
      · obtain ⟨sz, hsz, h3⟩ := R.bind_ok h1
        simp only [R.ok.injEq] at h3
        subst h3
        simp only [denO, Option.some.injEq] at hl hh hm
        subst hl hh hm
        refine ⟨_, oslice_mk hb hlen, fun w => ?_⟩
        have gb : Gives C.P (Instr.sliceBounds true len b.2 none none none) (0, len, b.2) := fun w => by
          simp [Instr.sliceBounds]
        simp only [Instr.sliceAt, Instr.slice, Sem.run_bind, run_underlying hu, Result.andThen_ok, Sem.run_pure, gb w, szT_ok hsz w, Option.map_some, Nat.sub_zero, Nat.zero_mul, add_none, Nat.add_zero, ite_self]
      · simp at h1
    · simp at h1
  · simp at h1

def lenS (C : Cfg) (t : TypeId) (x : SV) : R SV := (undT C t).bind fun d => match d with
  | .array n _ => .ok (.int .i64 (Poly.lit n))
  | .slice _ => match x with
    | .slice _ _ len _ _ => .ok (.int .i64 (Poly.lit len))
    | .xslice _ _ len _ => .ok (.int .i64 (Poly.lit len))
    | .aslice _ len _ => .ok (.int .i64 (Poly.lit len))
    | .oslice _ len => .ok (.int .i64 (Poly.lit len))
    | .raw (.slice _ len _) => .ok (.int .i64 (Poly.lit len))
    | .xlen _ p => match Poly.bnd C.F p with
      | some v => R.then (ile 0 v.lo) "len: negative" (.ok (.int .i64 p))
      | none => .fail "len: no bounds"
    | _ => .fail "len: slice"
  | .pointer arr => (undT C arr).bind fun e => match e with
    | .array n _ => .ok (.int .i64 (Poly.lit n))
    | _ => .fail "len: pointer"
  | .string => match x with
    | .raw (.string s) => .ok (.int .i64 (Poly.lit s.size))
    | _ => .fail "len: string"
  | _ => .fail "len"
theorem lenS_ok {C : Cfg} {D : Den} {μ : Mu} (hs : Sat D.env C.F) {t ty : TypeId} {x v : SV} {X : Value} (hx : x.den D μ = some X) (h : lenS C t x = .ok v) :
    ∃ V, v.den D μ = some V ∧ Gives C.P (Builtin.len_ #[t] ty #[X]) V := by
  obtain ⟨d, hu0, h1⟩ := R.bind_ok h
  have hu := undT_ok hu0
  clear h hu0
  split at h1
  · rename_i n e
    simp only [R.ok.injEq] at h1; subst h1
    exact ⟨goInt n, by simp [SV.den, Poly.ev_lit, goInt], fun w => by simp [Builtin.len_, run_underlying hu]⟩
  · rename_i e
    split at h1
    · rename_i id off len cap u
      simp only [R.ok.injEq] at h1; subst h1
      simp only [SV.den, Option.map_eq_some_iff] at hx
      obtain ⟨c, hc, rfl⟩ := hx
      exact ⟨goInt len, by simp [SV.den, Poly.ev_lit, goInt], fun w => by simp [Builtin.len_, run_underlying hu]⟩
    · rename_i i off len cap
      simp only [R.ok.injEq] at h1; subst h1
      simp only [SV.den, Option.some.injEq] at hx
      subst hx
      exact ⟨goInt len, by simp [SV.den, Poly.ev_lit, goInt], fun w => by simp [Builtin.len_, run_underlying hu]⟩
    · rename_i i len full
      simp only [R.ok.injEq] at h1; subst h1
      simp only [SV.den, Option.some.injEq] at hx
      subst hx
      exact ⟨goInt len, by simp [SV.den, Poly.ev_lit, goInt], fun w => by simp [Builtin.len_, run_underlying hu]⟩
    · rename_i id len
      simp only [R.ok.injEq] at h1; subst h1
      obtain ⟨b, hb, hn, rfl⟩ := oslice_den hx
      exact ⟨goInt len, by simp [SV.den, Poly.ev_lit, goInt], fun w => by simp [Builtin.len_, run_underlying hu]⟩
    · rename_i a len cap
      simp only [R.ok.injEq] at h1; subst h1
      simp only [SV.den, Option.some.injEq] at hx
      subst hx
      exact ⟨goInt len, by simp [SV.den, Poly.ev_lit, goInt], fun w => by simp [Builtin.len_, run_underlying hu]⟩
    · rename_i i p
      split at h1
      · rename_i iv hiv
        obtain ⟨h0, h2⟩ := R.then_ok h1
        simp only [R.ok.injEq] at h2; subst h2
        simp only [SV.den, Option.some.injEq] at hx
        subst hx
        have hb := Poly.bnd_has hs p
        rw [hiv] at hb
        have := (hb iv rfl).1
        have := ile_iff.1 h0
        refine ⟨_, rfl, fun w => ?_⟩
        simp [Builtin.len_, run_underlying hu, goInt]
        omega
      · simp at h1
    · simp at h1
  · rename_i arr
    obtain ⟨e, hu10, h2⟩ := R.bind_ok h1
    have hu1 := undT_ok hu10
    clear hu10 h1
    split at h2
    · rename_i n e'
      simp only [R.ok.injEq] at h2; subst h2
      exact ⟨goInt n, by simp [SV.den, Poly.ev_lit, goInt], fun w => by simp [Builtin.len_, run_underlying hu, run_underlying hu1]⟩
    · simp at h2
  · split at h1
    · rename_i s
      simp only [R.ok.injEq] at h1; subst h1
      simp only [SV.den, Option.some.injEq] at hx
      subst hx
      exact ⟨goInt s.size, by simp [SV.den, Poly.ev_lit, goInt], fun w => by simp [Builtin.len_, run_underlying hu]⟩
    · simp at h1
  · simp at h1

/-- min and max of two ints. -/
def minS (F : Facts) (x y : SV) : R SV := match x, y with
  | .int k p, .int _ q => (decLe F (Poly.plus (Poly.minus q p) (Poly.lit 1))).bind fun b => match b with
    | true => .ok (.int k q)
    | false => .ok (.int k p)
  | _, _ => .fail "min"
def maxS (F : Facts) (x y : SV) : R SV := match x, y with
  | .int k p, .int _ q => (decLe F (Poly.plus (Poly.minus p q) (Poly.lit 1))).bind fun b => match b with
    | true => .ok (.int k q)
    | false => .ok (.int k p)
  | _, _ => .fail "max"
theorem minS_ok {P : Program} {F : Facts} {D : Den} {μ : Mu} (hs : Sat D.env F) {x y v : SV} {X Y : Value} {at_ : Array TypeId} {ty : TypeId} (hx : x.den D μ = some X) (hy : y.den D μ = some Y) (h : minS F x y = .ok v) :
    ∃ V, v.den D μ = some V ∧ Gives P (Builtin.min_ at_ ty #[X, Y]) V := by
  unfold minS at h
  split at h
  · rename_i k p l q
    obtain ⟨b, hb, h1⟩ := R.bind_ok h
    have hb := decLe_ok hs hb
    rw [Poly.ev_plus, Poly.ev_minus, Poly.ev_lit] at hb
    simp only [SV.den, Option.some.injEq] at hx hy
    subst hx hy
    split at h1
    · simp only [R.ok.injEq] at h1; subst h1
      refine ⟨_, rfl, fun w => ?_⟩
      have : Poly.ev D.env q < Poly.ev D.env p := by have := of_decide_eq_true hb; omega
      simp [Builtin.min_, Builtin.min2, this]
    · simp only [R.ok.injEq] at h1; subst h1
      refine ⟨_, rfl, fun w => ?_⟩
      have : ¬ Poly.ev D.env q < Poly.ev D.env p := by have := of_decide_eq_false hb; omega
      simp [Builtin.min_, Builtin.min2, this]
  · simp at h
theorem maxS_ok {P : Program} {F : Facts} {D : Den} {μ : Mu} (hs : Sat D.env F) {x y v : SV} {X Y : Value} {at_ : Array TypeId} {ty : TypeId} (hx : x.den D μ = some X) (hy : y.den D μ = some Y) (h : maxS F x y = .ok v) :
    ∃ V, v.den D μ = some V ∧ Gives P (Builtin.max_ at_ ty #[X, Y]) V := by
  unfold maxS at h
  split at h
  · rename_i k p l q
    obtain ⟨b, hb, h1⟩ := R.bind_ok h
    have hb := decLe_ok hs hb
    rw [Poly.ev_plus, Poly.ev_minus, Poly.ev_lit] at hb
    simp only [SV.den, Option.some.injEq] at hx hy
    subst hx hy
    split at h1
    · simp only [R.ok.injEq] at h1; subst h1
      refine ⟨_, rfl, fun w => ?_⟩
      have : Poly.ev D.env q > Poly.ev D.env p := by have := of_decide_eq_true hb; omega
      simp [Builtin.max_, Builtin.max2, this]
    · simp only [R.ok.injEq] at h1; subst h1
      refine ⟨_, rfl, fun w => ?_⟩
      have : ¬ Poly.ev D.env q > Poly.ev D.env p := by have := of_decide_eq_false hb; omega
      simp [Builtin.max_, Builtin.max2, this]
  · simp at h

def nilCheckS : SV → R SV
  | .ptr id off => .ok (.ptr id off)
  | .xptr i off => .ok (.xptr i off)
  | .func f a b => .ok (.func f a b)
  | _ => .fail "nilCheck"

def optS (ev : Operand → R SV) : Option Operand → R (Option SV)
  | none => .ok none
  | some x => (ev x).bind fun v => .ok (some v)
theorem optS_ok {D : Den} {μ : Mu} {ev : Operand → R SV} {a : Act} (he : EvOk D μ ev a) {x : Option Operand} {v : Option SV} (h : optS ev x = .ok v) : denO D μ v = some (x.map a.eval) := by
  cases x with
  | none => simp only [optS, R.ok.injEq] at h; subst h; rfl
  | some x =>
    simp only [optS] at h
    obtain ⟨u, hu, h1⟩ := R.bind_ok h
    simp only [R.ok.injEq] at h1; subst h1
    simp [denO, he x u hu]

/-- The quiet operations: they leave the world as it is and do not look at it. -/
def pop (C : Cfg) (ev : Operand → R SV) (o : Oper) : R SV := match o.op with
  | .move x => ev x
  | .assign x => ev x
  | .pick c a b => (ev c).bind fun v => match v with
    | .bool true => ev a
    | .bool false => ev b
    | _ => .fail "pick"
  | .build t parts => (evParts ev parts.toList).bind fun ps => buildS C t ps
  | .nilCheck x => (ev x).bind nilCheckS
  | .binOp op t x y _ => (ev x).bind fun a => (ev y).bind fun b => binS C op t a b
  | .unOp op _ x => (ev x).bind fun a => unS C op a
  | .convert s d x => (ev x).bind fun a => convS C s d a
  | .makeFunc fn first captured => match fn with
    | .func f => (evL ev first.toList).bind fun a => (evL ev captured.toList).bind fun b => .ok (.func f a b)
    | _ => .fail "makeFunc"
  | .slice t x lo hi mx => (ev x).bind fun a => (optS ev lo).bind fun l => (optS ev hi).bind fun h => (optS ev mx).bind fun m => sliceS C t a l h m
  | .fieldAddr s x f => (ev x).bind fun a => fieldAddrS C s a f
  | .field t x f => (ev x).bind fun a => fieldS C t a f
  | .indexAddr t x ix => (ev x).bind fun a => (ev ix).bind fun i => indexAddrS C t a i
  | .index t x ix => (ev x).bind fun a => (ev ix).bind fun i => indexValS C t a i
  | .extract t i => (ev t).bind fun a => extractS a i
  | .call c => match c.callee, c.args.toList, c.argTypes.toList with
    | .builtin .len, [x], [t] => (ev x).bind fun a => lenS C t a
    | .builtin .min, [x, y], _ => (ev x).bind fun a => (ev y).bind fun b => minS C.F a b
    | .builtin .max, [x, y], _ => (ev x).bind fun a => (ev y).bind fun b => maxS C.F a b
    | _, _, _ => .fail "call"
  | _ => .fail "no quiet operation"

theorem exec_v {P : Program} {s : Sem Value} {V : Value} (h : Gives P s V) (w : World) : (do pure (Next.value (← s)) : Sem Next).run P w = .ok (.value V) w := by
  rw [Sem.run_bind, h w]; rfl

theorem pop_ok {C : Cfg} {D : Den} {μ : Mu} (hs : Sat D.env C.F) {ev : Operand → R SV} {a : Act} (he : EvOk D μ ev a) {o : Oper} {v : SV} (h : pop C ev o = .ok v) :
    ∃ V, v.den D μ = some V ∧ Gives C.P (execOp a.eval o) (.value V) := by
  obtain ⟨dst, op, type, pos, after, guard⟩ := o
  cases op <;> simp only [pop] at h <;> simp only [execOp]
  case move x => exact ⟨_, he x v h, Gives.pure _⟩
  case assign x => exact ⟨_, he x v h, Gives.pure _⟩
  case pick c x y =>
    obtain ⟨u, hu, h1⟩ := R.bind_ok h
    have hc := he c u hu
    split at h1
    · simp only [SV.den, Option.some.injEq] at hc
      exact ⟨_, he x v h1, fun w => by simp [← hc, asBool]⟩
    · simp only [SV.den, Option.some.injEq] at hc
      exact ⟨_, he y v h1, fun w => by simp [← hc, asBool]⟩
    · simp at h1
  case build t parts =>
    obtain ⟨ps, hp, h1⟩ := R.bind_ok h
    obtain ⟨h2, h3⟩ := evParts_ok he hp
    obtain ⟨V, hV, g⟩ := buildS_ok h3 h2 h1
    refine ⟨V, hV, exec_v ?_⟩
    have : (List.map (fun x => match x with | (i, x) => (i, a.eval x)) parts.toList).toArray = parts.map (fun x => match x with | (i, x) => (i, a.eval x)) := by apply Array.ext'; simp
    rw [← this]
    exact g
  case nilCheck x =>
    obtain ⟨u, hu, h1⟩ := R.bind_ok h
    have hx := he x u hu
    cases u <;> simp only [nilCheckS, R.ok.injEq] at h1 <;> first | (simp at h1; done) | subst h1
    · simp only [SV.den, Option.map_eq_some_iff] at hx
      obtain ⟨b, hb, e⟩ := hx
      exact ⟨_, by simp only [SV.den, hb]; rfl, fun w => by simp only [← e]; rfl⟩
    · simp only [SV.den, Option.some.injEq] at hx
      exact ⟨_, rfl, fun w => by simp only [← hx]; rfl⟩
    · have hx' := hx
      simp only [SV.den, Option.map_eq_some_iff, Option.bind_eq_some_iff] at hx
      obtain ⟨y, hy, z, hz, e⟩ := hx
      exact ⟨_, hx', fun w => by simp only [← e]; rfl⟩
  case binOp op t x y yt =>
    obtain ⟨u, hu, h1⟩ := R.bind_ok h
    obtain ⟨z, hz, h2⟩ := R.bind_ok h1
    obtain ⟨V, hV, g1, g2⟩ := binS_ok (ox := x) (oy := y) hs (he x u hu) (he y z hz) h2
    exact ⟨V, hV, exec_v (Gives.bind g1 g2)⟩
  case unOp op t x =>
    obtain ⟨u, hu, h1⟩ := R.bind_ok h
    obtain ⟨V, hV, g⟩ := unS_ok hs (he x u hu) h1
    exact ⟨V, hV, exec_v g⟩
  case convert s d x =>
    obtain ⟨u, hu, h1⟩ := R.bind_ok h
    obtain ⟨V, hV, g⟩ := convS_ok hs (he x u hu) h1
    exact ⟨V, hV, exec_v g⟩
  case makeFunc fn first captured =>
    split at h
    · rename_i f
      obtain ⟨x, hx, h1⟩ := R.bind_ok h
      obtain ⟨y, hy, h2⟩ := R.bind_ok h1
      simp only [R.ok.injEq] at h2; subst h2
      refine ⟨.func (.func f) (first.map a.eval) (captured.map a.eval), ?_, exec_v (Gives.pure _)⟩
      have e : ∀ xs : Array Operand, (List.map a.eval xs.toList).toArray = xs.map a.eval := fun xs => by apply Array.ext'; simp
      simp [SV.den, evL_ok he hx, evL_ok he hy, e]
    · simp at h
  case slice t x lo hi mx =>
    obtain ⟨u, hu, h1⟩ := R.bind_ok h
    obtain ⟨l, hl, h2⟩ := R.bind_ok h1
    obtain ⟨hh, hhi, h3⟩ := R.bind_ok h2
    obtain ⟨m, hm, h4⟩ := R.bind_ok h3
    obtain ⟨V, hV, g⟩ := sliceS_ok hs (he x u hu) (optS_ok he hl) (optS_ok he hhi) (optS_ok he hm) h4
    exact ⟨V, hV, exec_v g⟩
  case fieldAddr s x f =>
    obtain ⟨u, hu, h1⟩ := R.bind_ok h
    obtain ⟨V, hV, g⟩ := fieldAddrS_ok (he x u hu) h1
    exact ⟨V, hV, exec_v g⟩
  case field t x f =>
    obtain ⟨u, hu, h1⟩ := R.bind_ok h
    obtain ⟨V, hV, g⟩ := fieldS_ok (he x u hu) h1
    exact ⟨V, hV, exec_v g⟩
  case indexAddr t x ix =>
    obtain ⟨u, hu, h1⟩ := R.bind_ok h
    obtain ⟨i, hi, h2⟩ := R.bind_ok h1
    obtain ⟨V, hV, g⟩ := indexAddrS_ok hs (he x u hu) (he ix i hi) h2
    exact ⟨V, hV, exec_v g⟩
  case index t x ix =>
    obtain ⟨u, hu, h1⟩ := R.bind_ok h
    obtain ⟨i, hi, h2⟩ := R.bind_ok h1
    obtain ⟨V, hV, g⟩ := indexValS_ok hs (he x u hu) (he ix i hi) h2
    exact ⟨V, hV, exec_v g⟩
  case extract t i =>
    obtain ⟨u, hu, h1⟩ := R.bind_ok h
    obtain ⟨V, hV, g⟩ := extractS_ok (P := C.P) (he t u hu) h1
    exact ⟨V, hV, exec_v g⟩
  case call c =>
    obtain ⟨callee, args, argTypes⟩ := c
    obtain ⟨args⟩ := args
    obtain ⟨argTypes⟩ := argTypes
    simp only [] at h
    split at h
    · rename_i x t
      obtain ⟨u, hu, h1⟩ := R.bind_ok h
      obtain ⟨V, hV, g⟩ := lenS_ok (ty := type) hs (he x u hu) h1
      refine ⟨V, hV, fun w => ?_⟩
      simp only [resolve, List.map_toArray, List.map_cons, List.map_nil, Sem.run_bind, Sem.run_pure, Result.andThen_ok, invoke, builtin]
      simp only [g w, Result.andThen_ok]
    · rename_i x y
      obtain ⟨u, hu, h1⟩ := R.bind_ok h
      obtain ⟨z, hz, h2⟩ := R.bind_ok h1
      obtain ⟨V, hV, g⟩ := minS_ok (P := C.P) (at_ := ⟨argTypes⟩) (ty := type) hs (he x u hu) (he y z hz) h2
      refine ⟨V, hV, fun w => ?_⟩
      simp only [resolve, List.map_toArray, List.map_cons, List.map_nil, Sem.run_bind, Sem.run_pure, Result.andThen_ok, invoke, builtin]
      simp only [g w, Result.andThen_ok]
    · rename_i x y
      obtain ⟨u, hu, h1⟩ := R.bind_ok h
      obtain ⟨z, hz, h2⟩ := R.bind_ok h1
      obtain ⟨V, hV, g⟩ := maxS_ok (P := C.P) (at_ := ⟨argTypes⟩) (ty := type) hs (he x u hu) (he y z hz) h2
      refine ⟨V, hV, fun w => ?_⟩
      simp only [resolve, List.map_toArray, List.map_cons, List.map_nil, Sem.run_bind, Sem.run_pure, Result.andThen_ok, invoke, builtin]
      simp only [g w, Result.andThen_ok]
    · simp at h
  all_goals simp at h

end Go.Sym

/- SymGo, part 7: loads, stores and new blocks. -/
import Derived.Test.YtjghifocfjbmcabDoorSym6
namespace Go.Sym

theorem Rep.congr {B : Base} {D : Den} {μ : Mu} {s t : St} {w : World} (h : Rep B D μ s w) (hH : ∀ i, t.H.get i = s.H.get i) (hn : s.n ≤ t.n) : Rep B D μ t w :=
  ⟨h.os, h.tape, h.output, h.base, h.size, fun i b hb => by have := h.rng i b hb; exact ⟨this.1, this.2.1, by omega⟩,
   fun i b hb => by obtain ⟨k, xs, rest, ty, h1, h2⟩ := h.blk i b hb; exact ⟨k, xs, rest, ty, by rw [hH]; exact h1, h2⟩,
   fun i j b c hb hc he => by
    rcases h.sep i j b c hb hc he with h1 | ⟨k, l, h1, h2, h3⟩
    · exact .inl h1
    · exact .inr ⟨k, l, by rw [hH]; exact h1, by rw [hH]; exact h2, h3⟩,
   fun i b k hb hk => by rw [hH] at hk; exact h.cap i b k hb hk⟩

/-- Some cells from a place on. -/
def cellsAt (C : Cfg) (s : St) (x : SV) (n : Nat) : R (List SV) := match x with
  | .ptr id off => match s.H.get id with
    | some k => R.then (Nat.ble (off + n) k.cells.length) "load: beyond the block" (.ok ((k.cells.drop off).take n))
    | none => .fail "load: no block"
  | .xptr i off => R.then (Nat.ble (off + n) (C.X i).length) "load: beyond the row" (.ok (((C.X i).drop off).take n))
  | _ => .fail "load: address"
theorem take_drop_get {α : Type} (l : List α) (off n j : Nat) (hj : j < n) : ((l.drop off).take n)[j]? = l[off + j]? := by
  rw [List.getElem?_take, if_pos hj, List.getElem?_drop]
theorem denL_of {D : Den} {μ : Mu} : ∀ (l : List SV), (∀ v ∈ l, ∃ V, v.den D μ = some V) → ∃ L, SV.denL D μ l = some L
  | [], _ => ⟨[], rfl⟩
  | v :: l, h => by
    obtain ⟨V, hV⟩ := h v List.mem_cons_self
    obtain ⟨L, hL⟩ := denL_of l fun u hu => h u (List.mem_cons_of_mem _ hu)
    exact ⟨V :: L, by simp [SV.denL, hV, hL]⟩
theorem cellsAt_ok {C : Cfg} {B : Base} {D : Den} {μ : Mu} {s : St} {w : World} (hC : Ok C B D) (hr : Rep B D μ s w) {x : SV} {X : Value} {n : Nat} {l : List SV} (hx : x.den D μ = some X) (h : cellsAt C s x n = .ok l) :
    l.length = n ∧ ∃ L b o, SV.denL D μ l = some L ∧ X = .pointer (some ⟨b, o, none⟩) ∧ ∀ j V, L[j]? = some V → w.cell? ⟨b, o + j, none⟩ = some V := by
  unfold cellsAt at h
  have fin : ∀ (cs : List SV) (off b o : Nat), off + n ≤ cs.length → X = .pointer (some ⟨b, o, none⟩) → l = (cs.drop off).take n →
      (∀ j v, cs[off + j]? = some v → ∃ V, v.den D μ = some V ∧ w.cell? ⟨b, o + j, none⟩ = some V) →
      l.length = n ∧ ∃ L b o, SV.denL D μ l = some L ∧ X = .pointer (some ⟨b, o, none⟩) ∧ ∀ j V, L[j]? = some V → w.cell? ⟨b, o + j, none⟩ = some V := fun cs off b o hle hX hl hc => by
    have hlen : l.length = n := by rw [hl]; simp; omega
    refine ⟨hlen, ?_⟩
    obtain ⟨L, hL⟩ := denL_of (D := D) (μ := μ) l fun v hv => by
      obtain ⟨j, hj⟩ := List.getElem?_of_mem hv
      have hjn : j < n := by have := (List.getElem?_eq_some_iff.1 hj).1; omega
      rw [hl, take_drop_get _ _ _ _ hjn] at hj
      obtain ⟨V, hV, _⟩ := hc j v hj
      exact ⟨V, hV⟩
    refine ⟨L, b, o, hL, hX, fun j V hV => ?_⟩
    have hj : j < l.length := by rw [← denL_length hL]; exact (List.getElem?_eq_some_iff.1 hV).1
    obtain ⟨v, hv⟩ : ∃ v, l[j]? = some v := ⟨l[j], by simp [hj]⟩
    obtain ⟨V', hV', hg⟩ := denL_get hL hv
    rw [hV] at hg
    cases hg
    rw [hl, take_drop_get _ _ _ _ (by omega)] at hv
    obtain ⟨V2, h2, h3⟩ := hc j v hv
    rw [hV'] at h2
    cases h2
    exact h3
  split at h
  · rename_i id off
    split at h
    · rename_i k hk
      obtain ⟨hc, h1⟩ := R.then_ok h
      simp only [R.ok.injEq] at h1
      simp only [SV.den, Option.map_eq_some_iff] at hx
      obtain ⟨b, hb, rfl⟩ := hx
      exact fin k.cells off b.1 off (by simpa using hc) rfl h1.symm fun j v hv => by
        obtain ⟨V, h2, h3, _⟩ := hr.cell hb hk hv
        exact ⟨V, h2, h3⟩
    · simp at h
  · rename_i i off
    obtain ⟨hc, h1⟩ := R.then_ok h
    simp only [R.ok.injEq] at h1
    simp only [SV.den, Option.some.injEq] at hx
    subst hx
    exact fin (C.X i) off _ _ (by simpa using hc) rfl h1.symm fun j v hv => by
      rw [← hC.X] at hv
      obtain ⟨V, h2, h3⟩ := hr.xcell hC.base hv
      exact ⟨V, h2, by rw [Nat.add_assoc]; exact h3⟩
  · simp at h

def loadS (C : Cfg) (s : St) (t : TypeId) (x : SV) : R SV := (undT C t).bind fun d => match aggD d with
  | true => (szT C t).bind fun n => (cellsAt C s x n).bind fun l => .ok (.agg l)
  | false => (cellsAt C s x 1).bind fun l => match l with
    | [v] => .ok v
    | _ => .fail "load"
theorem loadS_ok {C : Cfg} {B : Base} {D : Den} {μ : Mu} {s : St} {w : World} (hC : Ok C B D) (hr : Rep B D μ s w) {t : TypeId} {x v : SV} {X : Value} (hx : x.den D μ = some X) (h : loadS C s t x = .ok v) :
    ∃ V, v.den D μ = some V ∧ (Instr.loadAt t X).run C.P w = .ok V w := by
  obtain ⟨d, hu0, h1⟩ := R.bind_ok h
  have hu := undT_ok hu0
  clear h hu0
  split at h1
  · rename_i ha
    obtain ⟨n, hn, h2⟩ := R.bind_ok h1
    obtain ⟨l, hl, h3⟩ := R.bind_ok h2
    simp only [R.ok.injEq] at h3
    subst h3
    obtain ⟨hlen, L, b, o, hL, rfl, hc⟩ := cellsAt_ok hC hr hx hl
    have e : L.length = n := by rw [denL_length hL, hlen]
    have hrun := run_loadCells_list (P := C.P) w ⟨b, o, none⟩ L fun j V hV => by rw [add_none]; exact hc j V hV
    refine ⟨.agg L.toArray, by simp [SV.den, hL], ?_⟩
    simp only [Instr.loadAt, Instr.sureAddr, Sem.run_bind, Sem.run_pure, Result.andThen_ok, loadVar, agg_gives hu w, ha, if_true, szT_ok hn w, ← e, hrun]
  · rename_i ha
    obtain ⟨l, hl, h3⟩ := R.bind_ok h1
    split at h3
    · rename_i u
      simp only [R.ok.injEq] at h3
      subst h3
      obtain ⟨hlen, L, b, o, hL, rfl, hc⟩ := cellsAt_ok hC hr hx hl
      simp only [SV.denL, Option.map_eq_some_iff, Option.bind_eq_some_iff] at hL
      obtain ⟨V, hV, y, hy, rfl⟩ := hL
      have := hc 0 V rfl
      refine ⟨V, hV, ?_⟩
      simp only [Instr.loadAt, Instr.sureAddr, Sem.run_bind, Sem.run_pure, Result.andThen_ok, loadVar, agg_gives hu w, ha]
      simp only [Nat.add_zero] at this
      simp [this]
    · simp at h3

def storeS (C : Cfg) (s : St) (t : TypeId) (x v : SV) : R St := match x with
  | .ptr id off => match s.H.get id with
    | some k => (szT C t).bind fun n => R.then (Nat.beq k.kind 0 && (Nat.beq v.cells.length n && (Nat.ble (off + n) k.cells.length && (SV.ones v.cells && !rawAgg v)))) "store"
        (.ok { s with H := s.H.set id ⟨setAll k.cells off v.cells, 0⟩ })
    | none => .fail "store: no block"
  | _ => .fail "store: address"

theorem storeCells_ok {P : Program} {B : Base} {D : Den} {μ : Mu} {id : Nat} {b : Nat × Nat} (hb : μ id = some b) : ∀ (l : List SV) (L : List Value) (i off : Nat) (cs : List SV) (s : St) (w : World),
    Rep B D μ s w → s.H.get id = some ⟨cs, 0⟩ → SV.denL D μ l = some L → (∀ x ∈ L, x.oneCell' = true) → off + i + l.length ≤ cs.length →
    ∃ w', (storeCells ⟨b.1, off, none⟩ L i).run P w = .ok () w' ∧ Rep B D μ { s with H := s.H.set id ⟨setAll cs (off + i) l, 0⟩ } w'
  | [], L, i, off, cs, s, w, hr, hk, hL, h1, hle => by
    simp only [SV.denL, Option.some.injEq] at hL
    subst hL
    refine ⟨w, rfl, hr.congr (fun j => ?_) (Nat.le_refl _)⟩
    simp only [Tree.get_set, setAll]
    split
    · rename_i e; rw [e]; exact hk.symm
    · rfl
  | v :: l, L, i, off, cs, s, w, hr, hk, hL, h1, hle => by
    simp only [SV.denL, Option.map_eq_some_iff, Option.bind_eq_some_iff] at hL
    obtain ⟨V, hV, L', hL', rfl⟩ := hL
    simp only [List.length_cons] at hle
    have hlt : off + i < cs.length := by omega
    obtain ⟨u, hu⟩ : ∃ u, cs[off + i]? = some u := ⟨cs[off + i], by simp [hlt]⟩
    obtain ⟨U, _, hcell, hfr⟩ := hr.cell hb hk (j := off + i) (v := u) hu
    have hs := hr.store hb hk rfl (j := off + i) hlt hV
    obtain ⟨w', hw', hr'⟩ := storeCells_ok (P := P) hb l L' (i + 1) off (cs.set (off + i) v) _ _ hs (by simp [Tree.get_set]) hL' (fun x hx => h1 x (List.mem_cons_of_mem _ hx)) (by simp; omega)
    refine ⟨w', ?_, hr'.congr (fun j => ?_) (Nat.le_refl _)⟩
    · simp only [storeCells, Sem.run_bind, add_none, run_store P w ⟨b.1, off + i, none⟩ V _ (h1 V List.mem_cons_self), hcell, hfr, Bool.false_eq_true, if_false, Result.andThen_ok, hw']
    · simp only [Tree.get_set, setAll, Nat.add_assoc]
      split <;> rfl

theorem storeS_ok {C : Cfg} {B : Base} {D : Den} {μ : Mu} {s s' : St} {w : World} (hr : Rep B D μ s w) {t : TypeId} {x v : SV} {X V : Value} (hx : x.den D μ = some X) (hv : v.den D μ = some V) (h : storeS C s t x v = .ok s') :
    ∃ w', (Instr.storeAt t X V).run C.P w = .ok () w' ∧ Rep B D μ s' w' := by
  unfold storeS at h
  split at h
  · rename_i id off
    split at h
    · rename_i k hk
      obtain ⟨n, hn, h1⟩ := R.bind_ok h
      obtain ⟨hc, h2⟩ := R.then_ok h1
      simp only [R.ok.injEq] at h2
      subst h2
      simp only [Bool.and_eq_true] at hc
      obtain ⟨c1, c2, c3, c4, c5⟩ := hc
      have c1 := beq_iff.1 c1
      have c2 := beq_iff.1 c2
      have c3 : off + n ≤ k.cells.length := by simpa using c3
      simp only [SV.den, Option.map_eq_some_iff] at hx
      obtain ⟨b, hb, rfl⟩ := hx
      have hL := cells_den hv (rawAgg_no (by simpa using c5))
      have hk' : s.H.get id = some ⟨k.cells, 0⟩ := by rw [hk, ← c1]
      obtain ⟨w', hw', hr'⟩ := storeCells_ok (P := C.P) hb v.cells V.cells.toList 0 off k.cells s w hr hk' hL (denL_one hL c4) (by omega)
      have hsz : V.cells.size = n := by rw [← c2, ← denL_length hL]; simp
      refine ⟨w', ?_, by simpa using hr'⟩
      simp only [Instr.storeAt, Instr.sureAddr, Sem.run_bind, Sem.run_pure, Result.andThen_ok, storeVar, szT_ok hn w, hsz, ne_eq, not_true_eq_false, if_false, hw']
    · simp at h
  · simp at h

/-- A new block of the call's own. -/
def St.new (s : St) (cs : List SV) : St := ⟨s.H.set s.n ⟨cs, 0⟩, s.n + 1⟩
def St.newK (s : St) (cs : List SV) (kd : Nat) : St := ⟨s.H.set s.n ⟨cs, kd⟩, s.n + 1⟩
theorem Rep.fresh {B : Base} {D : Den} {μ : Mu} {s : St} {w : World} (hr : Rep B D μ s w) {i : Nat} (h : s.n ≤ i) : μ i = none := by
  cases hm : μ i with
  | none => rfl
  | some b => have := (hr.rng i b hm).2.2; omega
/-- The block is listed, and lies nowhere yet. -/
theorem Rep.listedK {B : Base} {D : Den} {μ : Mu} {s : St} {w : World} (hr : Rep B D μ s w) (cs : List SV) (kd : Nat) : Rep B D μ (s.newK cs kd) w := by
  have ne : ∀ i b, μ i = some b → i ≠ s.n := fun i b hb e => by
    have := (hr.rng i b hb).2.2; omega
  refine ⟨hr.os, hr.tape, hr.output, hr.base, hr.size, fun i b hb => ?_, fun i b hb => ?_, fun i j b c hb hc he => ?_, fun i b k hb hk => ?_⟩
  · have := hr.rng i b hb
    exact ⟨this.1, this.2.1, by simp only [St.newK]; omega⟩
  · obtain ⟨k, xs, rest, ty, h1, h2⟩ := hr.blk i b hb
    exact ⟨k, xs, rest, ty, by simp only [St.newK, Tree.get_set]; rw [if_neg (ne i b hb)]; exact h1, h2⟩
  · rcases hr.sep i j b c hb hc he with h1 | ⟨k, l, h1, h2, h3⟩
    · exact .inl h1
    · exact .inr ⟨k, l, by simp only [St.newK, Tree.get_set]; rw [if_neg (ne i b hb)]; exact h1, by simp only [St.newK, Tree.get_set]; rw [if_neg (ne j c hc)]; exact h2, h3⟩
  · simp only [St.newK, Tree.get_set] at hk
    rw [if_neg (ne i b hb)] at hk
    exact hr.cap i b k hb hk
theorem Rep.listed {B : Base} {D : Den} {μ : Mu} {s : St} {w : World} (hr : Rep B D μ s w) (cs : List SV) : Rep B D μ (s.new cs) w := hr.listedK cs 0
/-- The later state: no block that was listed has been laid or moved. -/
structure Ext (s s' : St) (μ ν : Mu) : Prop where
  n : s.n ≤ s'.n
  le : MuLe μ ν
  old : ∀ i, i < s.n → ν i = μ i
theorem Ext.refl (s : St) (μ : Mu) : Ext s s μ μ := ⟨Nat.le_refl _, MuLe.refl μ, fun _ _ => rfl⟩
theorem Ext.trans {s t u : St} {μ ν κ : Mu} (h : Ext s t μ ν) (h' : Ext t u ν κ) : Ext s u μ κ :=
  ⟨Nat.le_trans h.n h'.n, h.le.trans h'.le, fun i hi => by rw [h'.old i (Nat.lt_of_lt_of_le hi h.n), h.old i hi]⟩
theorem Rep.newK {B : Base} {D : Den} {μ : Mu} {s : St} {w : World} (hr : Rep B D μ s w) {cs : List SV} {kd cap : Nat} {xs rest : List Value} {ty : TypeId} (hd : SV.denL D μ cs = some xs)
    (hcap : ∀ e sz, sz < 4096 → kd = liveK e sz → ty = e ∧ (xs ++ rest).length = cap * sz ∧ cap ≤ maxLen) :
    ∃ ν : Mu, Ext s (s.newK cs kd) μ ν ∧ ν s.n = some (w.heap.size, cap) ∧ Rep B D ν (s.newK cs kd) { w with heap := w.heap.push (.cells (xs ++ rest).toArray ty) } := by
  have h := (hr.listedK cs kd).alloc (id := s.n) (k := ⟨cs, kd⟩) (rest := rest) (ty := ty) cap (by simp [St.newK]) (hr.fresh (Nat.le_refl _)) (by simp [St.newK, Tree.get_set]) hd hcap
  exact ⟨_, ⟨by simp [St.newK], h.1, fun i hi => if_neg (by omega)⟩, by simp, h.2⟩
theorem liveK_ne {e sz : Nat} {p : Prop} (h : 0 = liveK e sz) : p := by
  unfold liveK at h
  omega
theorem Rep.new {B : Base} {D : Den} {μ : Mu} {s : St} {w : World} (hr : Rep B D μ s w) {cs : List SV} {xs rest : List Value} {ty : TypeId} (hd : SV.denL D μ cs = some xs) :
    ∃ ν : Mu, Ext s (s.new cs) μ ν ∧ ν s.n = some (w.heap.size, 0) ∧ Rep B D ν (s.new cs) { w with heap := w.heap.push (.cells (xs ++ rest).toArray ty) } :=
  hr.newK (kd := 0) hd fun _ _ _ h => liveK_ne h

def boxS (s : St) (v : SV) : R (SV × St) := R.then (!rawAgg v) "box" (.ok (.ptr s.n 0, s.new v.cells))
theorem boxS_ok {P : Program} {B : Base} {D : Den} {μ : Mu} {s s' : St} {w : World} (hr : Rep B D μ s w) {t : TypeId} {x v : SV} {X : Value} (hx : x.den D μ = some X) (h : boxS s x = .ok (v, s')) :
    ∃ V ν w', Ext s s' μ ν ∧ v.den D ν = some V ∧ (Instr.box t X).run P w = .ok V w' ∧ Rep B D ν s' w' := by
  obtain ⟨hc, h1⟩ := R.then_ok h
  simp only [R.ok.injEq, Prod.mk.injEq] at h1
  obtain ⟨rfl, rfl⟩ := h1
  have hL := cells_den hx (rawAgg_no (by simpa using hc))
  obtain ⟨ν, h1, h2, h3⟩ := hr.new (rest := []) (ty := t) hL
  refine ⟨_, ν, _, h1, by simp only [SV.den, h2]; rfl, ?_, h3⟩
  simp [Instr.box, newVar, newRow]

def allocS (C : Cfg) (s : St) (t : TypeId) : R (SV × St) := (zeroS C t).bind fun z => .ok (.ptr s.n 0, s.new z)
theorem allocS_ok {C : Cfg} {B : Base} {D : Den} {μ : Mu} {s s' : St} {w : World} (hr : Rep B D μ s w) {t : TypeId} {v : SV} (h : allocS C s t = .ok (v, s')) :
    ∃ V ν w', Ext s s' μ ν ∧ v.den D ν = some V ∧ (Instr.alloc t true (.tuple #[])).run C.P w = .ok V w' ∧ Rep B D ν s' w' := by
  obtain ⟨z, hz, h1⟩ := R.bind_ok h
  simp only [R.ok.injEq, Prod.mk.injEq] at h1
  obtain ⟨rfl, rfl⟩ := h1
  obtain ⟨Z, hZ, g⟩ := zeroS_ok (D := D) (μ := μ) hz
  obtain ⟨ν, h1, h2, h3⟩ := hr.new (rest := []) (ty := t) hZ
  refine ⟨_, ν, _, h1, by simp only [SV.den, h2]; rfl, ?_, h3⟩
  simp [Instr.alloc, g w, newVar, newRow]

/-- The zero cells of a row. -/
def zerosS (z : List SV) (n : Nat) : List SV := (List.range n).map fun j => z.getD (j % z.length) (.raw (.tuple #[]))
theorem zerosS_den {D : Den} {μ : Mu} {z : List SV} {Z : Array Value} (h : SV.denL D μ z = some Z.toList) (hz : z.length ≠ 0) (n : Nat) :
    SV.denL D μ (zerosS z n) = some ((Array.range n).map (Z[· % Z.size]!)).toList := by
  have hlen := denL_length h
  have main : ∀ l : List Nat, SV.denL D μ (l.map fun j => z.getD (j % z.length) (.raw (.tuple #[]))) = some (l.map fun j => Z[j % Z.size]!) := fun l => by
    induction l with
    | nil => rfl
    | cons j l ih =>
      have hj : j % z.length < z.length := Nat.mod_lt _ (by omega)
      obtain ⟨v, hv⟩ : ∃ v, z[j % z.length]? = some v := ⟨z[j % z.length], by simp [hj]⟩
      obtain ⟨V, hV, hg⟩ := denL_get h hv
      have e1 : z.getD (j % z.length) (.raw (.tuple #[])) = v := by simp [List.getD, hv]
      have e2 : Z[j % Z.size]! = V := by
        have hs : Z.size = z.length := by rw [← hlen]; simp
        rw [hs]
        have : Z[j % z.length]? = some V := by simpa using hg
        simp [getElem!_def, this]
      simp only [List.map_cons, SV.denL, e1, hV, ih, e2]
      rfl
  rw [zerosS, main]
  simp

def buildSliceS (C : Cfg) (s : St) (t : TypeId) (len : Nat) (parts : List (Nat × SV)) : R (SV × St) := (undT C t).bind fun d => match d with
  | .slice e => match len, parts with
    | 0, [] => (szT C e).bind fun _ => .ok (.slice s.n 0 0 0 false, s.new [])
    | len, parts => (szT C e).bind fun n => (zeroS C e).bind fun z => R.then (Nat.ble (len * n) 1000 && (!Nat.beq (len * n) 0 && !Nat.beq z.length 0)) "buildSlice"
      ((fillS (fun i => .ok (i * n, n)) (zerosS z (len * n)) parts).bind fun cs => .ok (.slice s.n 0 len len false, s.new cs))
  | _ => .fail "buildSlice: slice expected"
theorem buildSliceS_ok {C : Cfg} {B : Base} {D : Den} {μ : Mu} {s s' : St} {w : World} (hr : Rep B D μ s w) {t : TypeId} {len : Nat} {parts : List (Nat × SV)} {L : List (Nat × Value)} {v : SV}
    (hp : ∀ x ∈ parts, rawAgg x.2 = false) (hL : denParts D μ parts = some L) (h : buildSliceS C s t len parts = .ok (v, s')) :
    ∃ V ν w', Ext s s' μ ν ∧ v.den D ν = some V ∧ (Instr.buildSlice t len L.toArray).run C.P w = .ok V w' ∧ Rep B D ν s' w' := by
  obtain ⟨d, hu0, h1⟩ := R.bind_ok h
  have hu := undT_ok hu0
  clear h hu0
  split at h1
  · rename_i e
    split at h1
    · obtain ⟨n, hn, h2⟩ := R.bind_ok h1
      simp only [R.ok.injEq, Prod.mk.injEq] at h2
      obtain ⟨rfl, rfl⟩ := h2
      simp only [denParts, Option.some.injEq] at hL
      subst hL
      obtain ⟨ν, h1, h2, h3⟩ := hr.new (cs := []) (xs := []) (rest := []) (ty := e) rfl
      refine ⟨.slice (some ⟨w.heap.size, 0, none⟩) 0 0, ν, _, h1, by simp [SV.den, h2], ?_, h3⟩
      simp only [Instr.buildSlice, Sem.run_bind, run_underlying hu, Result.andThen_ok, szT_ok hn w, Nat.zero_mul]
      have e0 : Array.range 0 = #[] := by simp [Array.range]
      simp [Instr.fill, newRow, e0]
    obtain ⟨n, hn, h2⟩ := R.bind_ok h1
    obtain ⟨z, hz, h3⟩ := R.bind_ok h2
    obtain ⟨hc, h4⟩ := R.then_ok h3
    obtain ⟨cs, hf, h5⟩ := R.bind_ok h4
    simp only [R.ok.injEq, Prod.mk.injEq] at h5
    obtain ⟨rfl, rfl⟩ := h5
    simp only [Bool.and_eq_true, Bool.not_eq_true'] at hc
    have c1 : len * n ≤ 1000 := by simpa using hc.1
    have c2 : len * n ≠ 0 := fun e => by have := hc.2.1; rw [e] at this; simp at this
    have c3 : z.length ≠ 0 := fun e => by have := hc.2.2; rw [e] at this; simp at this
    obtain ⟨Z, hZ, g⟩ := zeroS_ok (D := D) (μ := μ) hz
    obtain ⟨Y, hY, hfill⟩ := fillS_ok (pl := fun i => some (i * n, n)) (fun i p hp => by simp only [R.ok.injEq] at hp; rw [hp]) parts _ cs _ L hp (zerosS_den hZ c3 (len * n)) hL hf
    simp only [Array.toArray_toList] at hfill
    obtain ⟨ν, h1, h2, h3⟩ := hr.new (rest := []) (ty := e) hY
    refine ⟨.slice (some ⟨w.heap.size, 0, none⟩) len len, ν, _, h1, by simp [SV.den, h2], ?_, h3⟩
    simp only [Instr.buildSlice, Sem.run_bind, run_underlying hu, Result.andThen_ok, szT_ok hn w]
    rw [if_neg (by omega), if_neg c2]
    simp only [Sem.run_bind, Sem.run_pure, g w, Result.andThen_ok, hfill]
    simp [newRow]
  · simp at h1

end Go.Sym

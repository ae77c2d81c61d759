/- SymGo, part 3: symbolic values, memory by abstract block numbers, and what it is for a world to be as the symbolic state says. -/
import Derived.Test.YtjghifocfjbmcabDoorSym2
import Derived.Laws.StructEq
import Derived.Laws.Rows
import Derived.Laws.Cells
import Derived.Laws.OwnMore
import Derived.Laws.MakeOwn
namespace Go.Sym

/-- Symbolic values. `ptr`, `slice`: a place in a block of the call's own, by its abstract number; `xptr`, `xslice`: in a row of memory that was there; `xlen`: a slice that was there, of which the length alone is known; `aslice`: the first elements of a slice that was there with `full` elements, of unknown capacity; `oslice`: the first elements of a block of the call's own that has grown. -/
inductive SV where
  | int (k : IntKind) (p : Poly)
  | bool (b : Bool)
  | ptr (id off : Nat)
  | xptr (i off : Nat)
  | slice (id off len cap : Nat) (open_ : Bool)
  | xslice (i off len cap : Nat)
  | xlen (i : Nat) (p : Poly)
  | aslice (i len full : Nat)
  | oslice (id len : Nat)
  | agg (l : List SV)
  | tuple (l : List SV)
  | func (f : FuncId) (first captured : List SV)
  | raw (v : Value)
  deriving Inhabited

/-- What symbolic values stand for: the numbers, the rows of memory that was there, the slices of unknown content. -/
structure Den where
  env : Env
  xi : Nat → Addr
  xs : Nat → Option Addr × Nat

/-- Where the blocks lie, and the capacity of each. -/
abbrev Mu := Nat → Option (Nat × Nat)

mutual
def SV.den (D : Den) (μ : Mu) : SV → Option Value
  | .int k p => some (.int k (Poly.ev D.env p))
  | .bool b => some (.bool b)
  | .ptr id off => (μ id).map fun b => .pointer (some ⟨b.1, off, none⟩)
  | .xptr i off => some (.pointer (some ⟨(D.xi i).block, (D.xi i).off + off, none⟩))
  | .slice id off len cap u => (μ id).map fun b => .slice (some ⟨b.1, off, none⟩) len (if u then b.2 - cap else cap)
  | .xslice i off len cap => some (.slice (some ⟨(D.xi i).block, (D.xi i).off + off, none⟩) len cap)
  | .xlen i p => some (.slice (D.xs i).1 (Poly.ev D.env p).toNat (D.xs i).2)
  | .aslice i len full => some (.slice (some ⟨(D.xi i).block, (D.xi i).off, none⟩) len (full + (D.xs i).2))
  | .oslice id len => (μ id).bind fun b => if len ≤ b.2 then some (.slice (some ⟨b.1, 0, none⟩) len b.2) else none
  | .agg l => (SV.denL D μ l).map fun cs => .agg cs.toArray
  | .tuple l => (SV.denL D μ l).map fun cs => .tuple cs.toArray
  | .func f a b => (SV.denL D μ a).bind fun x => (SV.denL D μ b).map fun y => .func (.func f) x.toArray y.toArray
  | .raw v => some v
def SV.denL (D : Den) (μ : Mu) : List SV → Option (List Value)
  | [] => some []
  | v :: l => (SV.den D μ v).bind fun x => (SV.denL D μ l).map fun y => x :: y
end

theorem oslice_den {D : Den} {μ : Mu} {id n : Nat} {V : Value} (h : (SV.oslice id n).den D μ = some V) : ∃ b, μ id = some b ∧ n ≤ b.2 ∧ V = .slice (some ⟨b.1, 0, none⟩) n b.2 := by
  simp only [SV.den, Option.bind_eq_some_iff] at h
  obtain ⟨b, hb, h⟩ := h
  split at h
  · rename_i hn
    simp only [Option.some.injEq] at h
    exact ⟨b, hb, hn, h.symm⟩
  · simp at h
theorem oslice_mk {D : Den} {μ : Mu} {id n : Nat} {b : Nat × Nat} (hb : μ id = some b) (hn : n ≤ b.2) : (SV.oslice id n).den D μ = some (.slice (some ⟨b.1, 0, none⟩) n b.2) := by
  simp only [SV.den, hb, Option.bind_some, if_pos hn]
def MuLe (μ ν : Mu) : Prop := ∀ i b, μ i = some b → ν i = some b
theorem MuLe.refl (μ : Mu) : MuLe μ μ := fun _ _ h => h
theorem MuLe.trans {μ ν κ : Mu} (h : MuLe μ ν) (h' : MuLe ν κ) : MuLe μ κ := fun i b hb => h' i b (h i b hb)

mutual
theorem SV.den_mono {D : Den} {μ ν : Mu} (h : MuLe μ ν) : ∀ (v : SV) {V : Value}, v.den D μ = some V → v.den D ν = some V
  | .int k p, V, e => by simpa [SV.den] using e
  | .bool b, V, e => by simpa [SV.den] using e
  | .ptr id off, V, e => by
    simp only [SV.den, Option.map_eq_some_iff] at e ⊢
    obtain ⟨b, hb, rfl⟩ := e
    exact ⟨b, h _ _ hb, rfl⟩
  | .xptr i off, V, e => by simpa [SV.den] using e
  | .slice id off len cap u, V, e => by
    simp only [SV.den, Option.map_eq_some_iff] at e ⊢
    obtain ⟨b, hb, rfl⟩ := e
    exact ⟨b, h _ _ hb, rfl⟩
  | .xslice i off len cap, V, e => by simpa [SV.den] using e
  | .xlen i p, V, e => by simpa [SV.den] using e
  | .aslice i n m, V, e => by simpa [SV.den] using e
  | .oslice id n, V, e => by
    simp only [SV.den, Option.bind_eq_some_iff] at e ⊢
    obtain ⟨b, hb, e⟩ := e
    exact ⟨b, h _ _ hb, e⟩
  | .agg l, V, e => by
    simp only [SV.den, Option.map_eq_some_iff] at e ⊢
    obtain ⟨b, hb, rfl⟩ := e
    exact ⟨b, SV.denL_mono h l hb, rfl⟩
  | .tuple l, V, e => by
    simp only [SV.den, Option.map_eq_some_iff] at e ⊢
    obtain ⟨b, hb, rfl⟩ := e
    exact ⟨b, SV.denL_mono h l hb, rfl⟩
  | .func f a b, V, e => by
    simp only [SV.den, Option.map_eq_some_iff, Option.bind_eq_some_iff] at e ⊢
    obtain ⟨x, hx, y, hy, rfl⟩ := e
    exact ⟨x, SV.denL_mono h a hx, y, SV.denL_mono h b hy, rfl⟩
  | .raw v, V, e => by simpa [SV.den] using e
theorem SV.denL_mono {D : Den} {μ ν : Mu} (h : MuLe μ ν) : ∀ (l : List SV) {V : List Value}, SV.denL D μ l = some V → SV.denL D ν l = some V
  | [], V, e => by simpa [SV.denL] using e
  | v :: l, V, e => by
    simp only [SV.denL, Option.map_eq_some_iff, Option.bind_eq_some_iff] at e ⊢
    obtain ⟨x, hx, y, hy, rfl⟩ := e
    exact ⟨x, SV.den_mono h v hx, y, SV.denL_mono h l hy, rfl⟩
end

theorem denL_length {D : Den} {μ : Mu} : ∀ {l : List SV} {V : List Value}, SV.denL D μ l = some V → V.length = l.length
  | [], V, e => by simp [SV.denL] at e; subst e; rfl
  | v :: l, V, e => by
    simp only [SV.denL, Option.map_eq_some_iff, Option.bind_eq_some_iff] at e
    obtain ⟨x, hx, y, hy, rfl⟩ := e
    simp [denL_length hy]
theorem denL_get {D : Den} {μ : Mu} : ∀ {l : List SV} {V : List Value}, SV.denL D μ l = some V → ∀ {j : Nat} {v : SV}, l[j]? = some v → ∃ x, v.den D μ = some x ∧ V[j]? = some x
  | [], V, e, j, v, h => by simp at h
  | v :: l, V, e, j, u, h => by
    simp only [SV.denL, Option.map_eq_some_iff, Option.bind_eq_some_iff] at e
    obtain ⟨x, hx, y, hy, rfl⟩ := e
    cases j with
    | zero => simp at h; subst h; exact ⟨x, hx, rfl⟩
    | succ j => simp at h; obtain ⟨z, h1, h2⟩ := denL_get hy h; exact ⟨z, h1, by simpa using h2⟩
theorem denL_append {D : Den} {μ : Mu} : ∀ {l m : List SV} {V W : List Value}, SV.denL D μ l = some V → SV.denL D μ m = some W → SV.denL D μ (l ++ m) = some (V ++ W)
  | [], m, V, W, e, h => by simp [SV.denL] at e; subst e; simpa using h
  | v :: l, m, V, W, e, h => by
    simp only [SV.denL, Option.map_eq_some_iff, Option.bind_eq_some_iff] at e
    obtain ⟨x, hx, y, hy, rfl⟩ := e
    simp only [List.cons_append, SV.denL, Option.map_eq_some_iff, Option.bind_eq_some_iff]
    exact ⟨x, hx, y ++ W, denL_append hy h, rfl⟩
theorem denL_take {D : Den} {μ : Mu} : ∀ {l : List SV} {V : List Value} (n : Nat), SV.denL D μ l = some V → SV.denL D μ (l.take n) = some (V.take n)
  | [], V, n, e => by simp [SV.denL] at e; subst e; simp [SV.denL]
  | v :: l, V, 0, e => by simp [SV.denL]
  | v :: l, V, n + 1, e => by
    simp only [SV.denL, Option.map_eq_some_iff, Option.bind_eq_some_iff] at e
    obtain ⟨x, hx, y, hy, rfl⟩ := e
    simp only [List.take_succ_cons, SV.denL, Option.map_eq_some_iff, Option.bind_eq_some_iff]
    exact ⟨x, hx, y.take n, denL_take n hy, rfl⟩
theorem denL_drop {D : Den} {μ : Mu} : ∀ {l : List SV} {V : List Value} (n : Nat), SV.denL D μ l = some V → SV.denL D μ (l.drop n) = some (V.drop n)
  | [], V, n, e => by simp [SV.denL] at e; subst e; simp [SV.denL]
  | v :: l, V, 0, e => by simpa using e
  | v :: l, V, n + 1, e => by
    simp only [SV.denL, Option.map_eq_some_iff, Option.bind_eq_some_iff] at e
    obtain ⟨x, hx, y, hy, rfl⟩ := e
    simpa using denL_drop n hy
theorem denL_set {D : Den} {μ : Mu} : ∀ {l : List SV} {V : List Value} (n : Nat) {v : SV} {x : Value}, SV.denL D μ l = some V → v.den D μ = some x → SV.denL D μ (l.set n v) = some (V.set n x)
  | [], V, n, _, _, e, _ => by simp [SV.denL] at e; subst e; simp [SV.denL]
  | u :: l, V, 0, v, x, e, h => by
    simp only [SV.denL, Option.map_eq_some_iff, Option.bind_eq_some_iff] at e
    obtain ⟨z, hz, y, hy, rfl⟩ := e
    simp only [List.set_cons_zero, SV.denL, Option.map_eq_some_iff, Option.bind_eq_some_iff]
    exact ⟨x, h, y, hy, rfl⟩
  | u :: l, V, n + 1, v, x, e, h => by
    simp only [SV.denL, Option.map_eq_some_iff, Option.bind_eq_some_iff] at e
    obtain ⟨z, hz, y, hy, rfl⟩ := e
    simp only [List.set_cons_succ, SV.denL, Option.map_eq_some_iff, Option.bind_eq_some_iff]
    exact ⟨z, hz, y.set n x, denL_set n hy h, rfl⟩

/-- The cells of a value. -/
def SV.cells : SV → List SV
  | .agg l => l
  | v => [v]
/-- May the value lie in one cell? -/
def SV.one : SV → Bool
  | .agg _ => false
  | .tuple _ => false
  | .raw v => v.oneCell'
  | _ => true
theorem SV.one_den {D : Den} {μ : Mu} {v : SV} {V : Value} (h : v.den D μ = some V) (h1 : v.one = true) : V.oneCell' = true := by
  cases v <;> simp only [SV.den, Option.map_eq_some_iff, Option.bind_eq_some_iff, Option.some.injEq] at h
  case int k p => subst h; rfl
  case bool b => subst h; rfl
  case ptr => obtain ⟨b, _, rfl⟩ := h; rfl
  case xptr => subst h; rfl
  case slice => obtain ⟨b, _, rfl⟩ := h; rfl
  case xslice => subst h; rfl
  case xlen => subst h; rfl
  case aslice => subst h; rfl
  case oslice => obtain ⟨b, _, h⟩ := h; split at h <;> simp at h; subst h; rfl
  case agg => simp [SV.one] at h1
  case tuple => simp [SV.one] at h1
  case func => obtain ⟨x, _, y, _, rfl⟩ := h; rfl
  case raw v => subst h; exact h1
def SV.ones : List SV → Bool
  | [] => true
  | v :: l => bif v.one then SV.ones l else false
theorem SV.ones_mem : ∀ {l : List SV}, SV.ones l = true → ∀ v ∈ l, v.one = true
  | [], _, v, h => by simp at h
  | u :: l, h, v, hv => by
    simp only [SV.ones] at h
    cases hu : u.one
    · rw [hu] at h; simp at h
    · rw [hu] at h
      rcases List.mem_cons.1 hv with rfl | hv
      · exact hu
      · exact SV.ones_mem (by simpa using h) v hv
theorem denL_one {D : Den} {μ : Mu} : ∀ {l : List SV} {V : List Value}, SV.denL D μ l = some V → SV.ones l = true → ∀ x ∈ V, x.oneCell' = true
  | [], V, e, _, x, hx => by simp [SV.denL] at e; subst e; simp at hx
  | v :: l, V, e, h, x, hx => by
    simp only [SV.denL, Option.map_eq_some_iff, Option.bind_eq_some_iff] at e
    obtain ⟨z, hz, y, hy, rfl⟩ := e
    simp only [SV.ones] at h
    cases hu : v.one
    · rw [hu] at h; simp at h
    · rw [hu] at h
      rcases List.mem_cons.1 hx with rfl | hx
      · exact SV.one_den hz hu
      · exact denL_one hy (by simpa using h) x hx
/-- A value that is no aggregate, or the cells of one, are its cells. -/
theorem cells_den {D : Den} {μ : Mu} {v : SV} {V : Value} (h : v.den D μ = some V) (hr : ∀ c, v ≠ .raw (.agg c)) : SV.denL D μ v.cells = some V.cells.toList := by
  have one : ∀ u : SV, u.den D μ = some V → (∀ c, V ≠ .agg c) → SV.denL D μ [u] = some V.cells.toList := fun u hu hv => by
    have : V.cells = #[V] := by cases V <;> first | rfl | exact absurd rfl (hv _)
    rw [this]
    simp [SV.denL, hu]
  cases v with
  | agg l =>
    simp only [SV.den, Option.map_eq_some_iff] at h
    obtain ⟨cs, hc, rfl⟩ := h
    simpa [SV.cells, Value.cells] using hc
  | int k p => exact one _ h (by simp [SV.den] at h; subst h; simp)
  | bool b => exact one _ h (by simp [SV.den] at h; subst h; simp)
  | ptr id off => exact one _ h (by simp [SV.den] at h; obtain ⟨b, c, _, rfl⟩ := h; simp)
  | xptr id off => exact one _ h (by simp [SV.den] at h; subst h; simp)
  | slice id off len cap u => exact one _ h (by simp [SV.den] at h; obtain ⟨b, c, _, rfl⟩ := h; simp)
  | xslice => exact one _ h (by simp [SV.den] at h; subst h; simp)
  | xlen => exact one _ h (by simp [SV.den] at h; subst h; simp)
  | aslice => exact one _ h (by simp [SV.den] at h; subst h; simp)
  | oslice id n => exact one _ h (by simp only [SV.den, Option.bind_eq_some_iff] at h; obtain ⟨b, _, h⟩ := h; split at h <;> simp at h; subst h; simp)
  | tuple l => exact one _ h (by simp only [SV.den, Option.map_eq_some_iff] at h; obtain ⟨cs, _, rfl⟩ := h; simp)
  | func f a b => exact one _ h (by simp only [SV.den, Option.map_eq_some_iff, Option.bind_eq_some_iff] at h; obtain ⟨x, _, y, _, rfl⟩ := h; simp)
  | raw x =>
    refine one _ h fun c hc => ?_
    simp only [SV.den, Option.some.injEq] at h
    exact hr c (by rw [h, hc])

/-- A value of the program's text. -/
def ofCell : Value → SV
  | .int k n => .int k (Poly.lit n)
  | .bool b => .bool b
  | v => .raw v
theorem ofCell_den (D : Den) (μ : Mu) (v : Value) : (ofCell v).den D μ = some v := by
  cases v <;> simp [ofCell, SV.den, Poly.ev_lit]
def ofCells : List Value → List SV
  | [] => []
  | v :: l => ofCell v :: ofCells l
theorem ofCells_den (D : Den) (μ : Mu) : ∀ l : List Value, SV.denL D μ (ofCells l) = some l
  | [] => rfl
  | v :: l => by simp [ofCells, SV.denL, ofCell_den, ofCells_den D μ l]
def ofVal : Value → SV
  | .agg cs => .agg (ofCells cs.toList)
  | v => ofCell v
theorem ofVal_den (D : Den) (μ : Mu) (v : Value) : (ofVal v).den D μ = some v := by
  cases v
  case agg cs => simp [ofVal, SV.den, ofCells_den]
  all_goals (simp only [ofVal]; exact ofCell_den D μ _)

/-- A block: its first cells; 0: of the call's own, written at will; 2: an earlier state of a slice that was appended to; from 3 on ('liveK'): the last state of one, with its elements' type and size. -/
structure SBlk where
  cells : List SV
  kind : Nat

structure St where
  H : Tree SBlk
  n : Nat

def liveK (e sz : Nat) : Nat := 3 + (e * 4096 + sz)
theorem liveK_inj {e sz e' sz' : Nat} (h : liveK e sz = liveK e' sz') (h1 : sz < 4096) (h2 : sz' < 4096) : e = e' ∧ sz = sz' := by
  unfold liveK at h
  omega

/-- What is known of the world in which the call began. -/
structure Base where
  w0 : World
  X : Nat → List SV

structure BaseOk (B : Base) (D : Den) : Prop where
  row : ∀ i j v, (B.X i)[j]? = some v → ∃ V, v.den D (fun _ => none) = some V ∧ B.w0.cell? ⟨(D.xi i).block, (D.xi i).off + j, none⟩ = some V

structure Rep (B : Base) (D : Den) (μ : Mu) (s : St) (w : World) : Prop where
  os : w.os = B.w0.os
  tape : w.tape = B.w0.tape
  output : w.output = B.w0.output
  base : ∀ k, k < B.w0.heap.size → w.heap[k]? = B.w0.heap[k]?
  size : B.w0.heap.size ≤ w.heap.size
  rng : ∀ i b, μ i = some b → B.w0.heap.size ≤ b.1 ∧ b.1 < w.heap.size ∧ i < s.n
  blk : ∀ i b, μ i = some b → ∃ k xs rest ty, s.H.get i = some k ∧ SV.denL D μ k.cells = some xs ∧ w.heap[b.1]? = some (.cells (xs ++ rest).toArray ty (0, 0))
  sep : ∀ i j b c, μ i = some b → μ j = some c → b.1 = c.1 → i = j ∨ ∃ k l, s.H.get i = some k ∧ s.H.get j = some l ∧ k.kind ≠ 0 ∧ l.kind ≠ 0 ∧ (3 ≤ k.kind → l.kind < 3 ∧ l.cells.length ≤ k.cells.length)
  cap : ∀ i b k, μ i = some b → s.H.get i = some k → ∀ e sz, sz < 4096 → k.kind = liveK e sz → ∃ cur, w.heap[b.1]? = some (.cells cur e (0, 0)) ∧ cur.size = b.2 * sz ∧ b.2 ≤ maxLen

theorem Rep.drew {B : Base} {D : Den} {μ : Mu} {s : St} {w : World} (h : Rep B D μ s w) (n : Nat) : Rep B D μ s { w with drawn := n } :=
  ⟨h.os, h.tape, h.output, h.base, h.size, h.rng, h.blk, h.sep, h.cap⟩

/-- A cell of a block of the call's own. -/
theorem Rep.cell {B : Base} {D : Den} {μ : Mu} {s : St} {w : World} (h : Rep B D μ s w) {i : Nat} {b : Nat × Nat} (hb : μ i = some b) {k : SBlk} (hk : s.H.get i = some k)
    {j : Nat} {v : SV} (hv : k.cells[j]? = some v) : ∃ V, v.den D μ = some V ∧ w.cell? ⟨b.1, j, none⟩ = some V ∧ w.frozen? ⟨b.1, j, none⟩ = false := by
  obtain ⟨k', xs, rest, ty, h1, h2, h3⟩ := h.blk i b hb
  rw [hk] at h1
  cases h1
  obtain ⟨V, hV, hx⟩ := denL_get h2 hv
  refine ⟨V, hV, ?_, ?_⟩
  · have hlt : j < xs.length := (List.getElem?_eq_some_iff.1 hx).1
    simp only [World.cell?, h3]
    simp [List.getElem?_append_left hlt, hx]
  · simp [World.frozen?, h3]
/-- A cell of a row that was there. -/
theorem Rep.xcell {B : Base} {D : Den} {μ : Mu} {s : St} {w : World} (h : Rep B D μ s w) (hB : BaseOk B D) {i j : Nat} {v : SV} (hv : (B.X i)[j]? = some v) :
    ∃ V, v.den D μ = some V ∧ w.cell? ⟨(D.xi i).block, (D.xi i).off + j, none⟩ = some V := by
  obtain ⟨V, h1, h2⟩ := hB.row i j v hv
  refine ⟨V, SV.den_mono (fun _ _ e => by simp at e) v h1, ?_⟩
  have hlt := block_lt_of_cell h2
  simp only [World.cell?, h.base _ hlt] at h2 ⊢
  exact h2

/-- A new block. -/
theorem Rep.alloc {B : Base} {D : Den} {μ : Mu} {s : St} {w : World} (h : Rep B D μ s w) {id : Nat} {k : SBlk} {xs rest : List Value} {ty : TypeId} (cap : Nat) (hid : id < s.n) (hμ : μ id = none)
    (hk : s.H.get id = some k) (hd : SV.denL D μ k.cells = some xs) (hcap : ∀ e sz, sz < 4096 → k.kind = liveK e sz → ty = e ∧ (xs ++ rest).length = cap * sz ∧ cap ≤ maxLen) :
    let ν : Mu := fun i => if i = id then some (w.heap.size, cap) else μ i
    MuLe μ ν ∧ Rep B D ν s { w with heap := w.heap.push (.cells (xs ++ rest).toArray ty) } := by
  intro ν
  have hle : MuLe μ ν := fun i b hb => by
    show (if i = id then _ else μ i) = some b
    by_cases e : i = id
    · subst e; rw [hμ] at hb; simp at hb
    · rw [if_neg e]; exact hb
  have hν : ∀ i b, ν i = some b → (i = id ∧ b = (w.heap.size, cap)) ∨ (i ≠ id ∧ μ i = some b) := fun i b hb => by
    have hb' : (if i = id then some (w.heap.size, cap) else μ i) = some b := hb
    by_cases e : i = id
    · rw [if_pos e] at hb'; cases hb'; exact .inl ⟨e, rfl⟩
    · rw [if_neg e] at hb'; exact .inr ⟨e, hb'⟩
  refine ⟨hle, ⟨h.os, h.tape, h.output, fun j hj => ?_, ?_, fun i b hb => ?_, fun i b hb => ?_, fun i j b c hb hc he => ?_, fun i b k' hb hk' e sz hsz hkd => ?_⟩⟩
  · have := h.size
    simp only [Array.getElem?_push]
    rw [if_neg (by omega)]
    exact h.base j hj
  · have := h.size; simp; omega
  · have := h.size
    rcases hν i b hb with ⟨rfl, rfl⟩ | ⟨_, hb'⟩
    · simp; omega
    · have := h.rng i b hb'; simp; omega
  · rcases hν i b hb with ⟨rfl, rfl⟩ | ⟨_, hb'⟩
    · exact ⟨k, xs, rest, ty, hk, SV.denL_mono hle _ hd, by simp⟩
    · obtain ⟨k', xs', rest', ty', h1, h2, h3⟩ := h.blk i b hb'
      refine ⟨k', xs', rest', ty', h1, SV.denL_mono hle _ h2, ?_⟩
      have := (h.rng i b hb').2.1
      simp only [Array.getElem?_push]
      rw [if_neg (by omega)]
      exact h3
  · rcases hν i b hb with ⟨rfl, rfl⟩ | ⟨_, hb'⟩ <;> rcases hν j c hc with ⟨rfl, rfl⟩ | ⟨_, hc'⟩
    · exact .inl rfl
    · have := (h.rng j c hc').2.1; simp only at he; omega
    · have := (h.rng i b hb').2.1; simp only at he; omega
    · exact h.sep i j b c hb' hc' he
  · rcases hν i b hb with ⟨rfl, rfl⟩ | ⟨_, hb'⟩
    · rw [hk] at hk'
      simp only [Option.some.injEq] at hk'
      subst hk'
      obtain ⟨h1, h2, h3⟩ := hcap e sz hsz hkd
      subst h1
      exact ⟨(xs ++ rest).toArray, by simp, by rw [List.size_toArray]; exact h2, h3⟩
    · obtain ⟨cur, h1, h2⟩ := h.cap i b k' hb' hk' e sz hsz hkd
      refine ⟨cur, ?_, h2⟩
      have := (h.rng i b hb').2.1
      simp only [Array.getElem?_push]
      rw [if_neg (by omega)]
      exact h1

theorem setCell_heap (w : World) (b j : Nat) (v : Value) (cs : Array Value) (ty : TypeId) (hb : w.heap[b]? = some (.cells cs ty (0, 0))) (k : Nat) :
    (w.setCell ⟨b, j, none⟩ v).heap[k]? = if k = b then some (.cells (cs.setIfInBounds j v) ty (0, 0)) else w.heap[k]? := by
  by_cases e : k = b
  · subst e; rw [if_pos rfl]; exact heap_setCell_same w k j cs ty v hb
  · rw [if_neg e]; exact heap_setCell_other w ⟨b, j, none⟩ k v e

/-- A store into a block of the call's own. -/
theorem Rep.store {B : Base} {D : Den} {μ : Mu} {s : St} {w : World} (h : Rep B D μ s w) {i : Nat} {b : Nat × Nat} (hb : μ i = some b) {k : SBlk} (hk : s.H.get i = some k) (h0 : k.kind = 0)
    {j : Nat} (hj : j < k.cells.length) {v : SV} {V : Value} (hv : v.den D μ = some V) :
    Rep B D μ { s with H := s.H.set i ⟨k.cells.set j v, 0⟩ } (w.setCell ⟨b.1, j, none⟩ V) := by
  obtain ⟨k', xs, rest, ty, h1, h2, h3⟩ := h.blk i b hb
  rw [hk] at h1
  cases h1
  have hlen := denL_length h2
  have heap := setCell_heap w b.1 j V _ ty h3
  have hsz : (w.setCell ⟨b.1, j, none⟩ V).heap.size = w.heap.size := by simp [World.setCell]
  have hr := h.rng i b hb
  refine ⟨h.os, h.tape, h.output, fun m hm => ?_, ?_, fun i' b' hb' => ?_, fun i' b' hb' => ?_, fun i' j' b' c hb' hc he => ?_, fun i' b' k' hb' hk' e sz hsz hkd => ?_⟩
  · rw [heap, if_neg (by omega)]; exact h.base m hm
  · rw [hsz]; exact h.size
  · rw [hsz]; exact h.rng i' b' hb'
  · by_cases e : i' = i
    · subst e
      rw [hb] at hb'
      cases hb'
      refine ⟨⟨k.cells.set j v, 0⟩, xs.set j V, rest, ty, ?_, denL_set j h2 hv, ?_⟩
      · simp [Tree.get_set]
      · rw [heap, if_pos rfl]
        simp only [List.setIfInBounds_toArray, Option.some.injEq, Obj.cells.injEq, and_true]
        rw [List.set_append_left _ _ (by omega)]
    · obtain ⟨k2, xs2, rest2, ty2, g1, g2, g3⟩ := h.blk i' b' hb'
      refine ⟨k2, xs2, rest2, ty2, ?_, g2, ?_⟩
      · simp only [Tree.get_set]; rw [if_neg e]; exact g1
      · rw [heap, if_neg ?_]
        · exact g3
        · intro e2
          rcases h.sep i' i b' b hb' hb e2 with h4 | ⟨k4, l4, _, q2, _, q4, _⟩
          · exact e h4
          · rw [hk] at q2; cases q2; exact q4 h0
  · have other : ∀ x y bx cy, μ x = some bx → μ y = some cy → bx.1 = cy.1 → x = i → x = y := fun x y bx cy hx hy exy exi => by
      subst exi
      rcases h.sep _ y bx cy hx hy exy with h4 | ⟨k4, l4, q1, _, q3, _⟩
      · exact h4
      · rw [hk] at q1; cases q1; exact absurd h0 q3
    by_cases e1 : i' = i
    · exact .inl (other i' j' b' c hb' hc he e1)
    · by_cases e2 : j' = i
      · exact .inl (other j' i' c b' hc hb' he.symm e2).symm
      · rcases h.sep i' j' b' c hb' hc he with h4 | ⟨k4, l4, q1, q2, q3⟩
        · exact .inl h4
        · exact .inr ⟨k4, l4, by simp only [Tree.get_set]; rw [if_neg e1]; exact q1, by simp only [Tree.get_set]; rw [if_neg e2]; exact q2, q3⟩
  · simp only [Tree.get_set] at hk'
    by_cases e1 : i' = i
    · rw [if_pos e1] at hk'
      simp only [Option.some.injEq] at hk'
      rw [← hk'] at hkd
      simp only [liveK] at hkd
      omega
    · rw [if_neg e1] at hk'
      obtain ⟨cur, g1, g2⟩ := h.cap i' b' k' hb' hk' e sz hsz hkd
      refine ⟨cur, ?_, g2⟩
      rw [heap, if_neg ?_]
      · exact g1
      · intro e2
        rcases h.sep i' i b' b hb' hb e2 with h4 | ⟨k4, l4, _, q2, _, q4, _⟩
        · exact e1 h4
        · rw [hk] at q2; cases q2; exact q4 h0

end Go.Sym

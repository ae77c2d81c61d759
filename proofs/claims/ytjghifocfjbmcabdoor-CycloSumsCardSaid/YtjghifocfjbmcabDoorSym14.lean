/- SymGo, part 14: the laid variables as blocks of the start; the frame of a law: what the row's theorem asks for. -/
import Derived.Test.YtjghifocfjbmcabDoorSym13
namespace Go.Sym
open Go.RowKit Go.ChangeShapes

def natIdx : List Nat → Nat → Nat → Option Nat
  | [], _, _ => none
  | x :: G, i, g => match Nat.beq x g with
    | true => some i
    | false => natIdx G (i + 1) g
theorem natIdx_ok : ∀ {G : List Nat} {i g j : Nat}, natIdx G i g = some j → i ≤ j ∧ G[j - i]? = some g
  | [], _, _, _, h => by simp [natIdx] at h
  | x :: G, i, g, j, h => by
    simp only [natIdx] at h
    split at h
    · rename_i hb
      have := Nat.eq_of_beq_eq_true hb
      simp only [Option.some.injEq] at h
      subst h; subst this
      exact ⟨Nat.le_refl _, by simp⟩
    · obtain ⟨h1, h2⟩ := natIdx_ok h
      refine ⟨by omega, ?_⟩
      rw [show j - i = (j - (i + 1)) + 1 by omega]
      simpa using h2
def gxOf (G : List Nat) (g : Nat) : Option Nat := natIdx G 0 g
def rowS : List Int → List SV
  | [] => []
  | z :: l => .int .i64 (Poly.lit z) :: rowS l
theorem rowS_get : ∀ {l : List Int} {j : Nat} {v : SV}, (rowS l)[j]? = some v → ∃ z, l[j]? = some z ∧ v = .int .i64 (Poly.lit z)
  | [], j, v, h => by simp [rowS] at h
  | z :: l, 0, v, h => by simp [rowS] at h; exact ⟨z, rfl, h.symm⟩
  | z :: l, j + 1, v, h => by simp only [rowS, List.getElem?_cons_succ] at h ⊢; exact rowS_get h
def xOf (X : List (List SV)) (i : Nat) : List SV := X.getD i []
theorem closed_rows (Z : List (List Int)) : Closed0 (xOf (Z.map rowS)) := fun i j v _ hv D D' => by
  simp only [xOf, List.getD_eq_getElem?_getD, List.getElem?_map] at hv
  cases hz : Z[i]? with
  | none => rw [hz] at hv; simp at hv
  | some z =>
    rw [hz] at hv
    simp only [Option.map_some, Option.getD_some] at hv
    obtain ⟨x, _, rfl⟩ := rowS_get hv
    simp only [SV.den, Poly.ev_lit]
def litB : SV → Bool
  | .int _ p => match p with
    | [] => true
    | [([], _)] => true
    | _ => false
  | _ => false
theorem closedLit {X : List (List SV)} (h : (X.all fun r => r.all litB) = true) : Closed0 (xOf X) := fun i j v _ hv D D' => by
  have hl : litB v = true := by
    simp only [xOf, List.getD_eq_getElem?_getD] at hv
    cases hz : X[i]? with
    | none => rw [hz] at hv; simp at hv
    | some z =>
      rw [hz] at hv
      simp only [Option.getD_some] at hv
      exact List.all_eq_true.1 (List.all_eq_true.1 h z (List.mem_of_getElem? hz)) v (List.mem_of_getElem? hv)
  unfold litB at hl
  split at hl
  · split at hl
    · rfl
    · rfl
    · simp at hl
  · simp at hl
def isI64 : IntKind → Bool
  | .i64 => true
  | _ => false

def laidOk (P : Program) (n : Nat) : List (String × DataW Unit) → List Nat → List (List Int) → Bool
  | [], [], [] => true
  | (s, d) :: l, g :: G, z :: Z => match P.globalNamed s with
    | none => false
    | some g' => match (P.globals[g]?).map (·.type) with
      | none => false
      | some t => match kindsT P n t with
        | none => false
        | some ks => Nat.beq g' g && (ks.all isI64 && (decide (flatD d = z) && laidOk P n l G Z))
  | _, _, _ => false

theorem laid_cells {P : Program} {n : Nat} {w : World} : ∀ {laid : List (String × DataW Unit)} {G : List Nat} {Z : List (List Int)} {ps : List MemPlace}, laidOk P n laid G Z = true → DataW.LaidVars P w laid ps →
    ∀ {i g : Nat} {z : List Int}, G[i]? = some g → Z[i]? = some z → ∀ {j : Nat} {x : Int}, z[j]? = some x → w.cell? ⟨g, j, none⟩ = some (.int .i64 x)
  | [], [], [], _, _, _, i, g, z, hg, _, _, _, _ => by simp at hg
  | (s, d) :: l, g0 :: G, z0 :: Z, ps, h, hl, i, g, z, hg, hz, j, x, hx => by
    obtain ⟨g1, t, cs, fuel, p, q, h1, h2, h3, h4, h5, _⟩ := hl
    simp only [laidOk, h1] at h
    split at h
    · simp at h
    · rename_i t' ht
      split at h
      · simp at h
      · rename_i ks hk
        simp only [Bool.and_eq_true, decide_eq_true_eq] at h
        obtain ⟨hgg, hall, hflat, hrest⟩ := h
        have hgg := Nat.eq_of_beq_eq_true hgg
        subst hgg
        cases i with
        | succ i => exact laid_cells hrest h5 (by simpa using hg) (by simpa using hz) hx
        | zero =>
          simp only [List.getElem?_cons_zero, Option.some.injEq] at hg hz
          subst hg; subst hz
          rw [h2] at ht
          simp only [Option.some.injEq] at ht
          subst ht
          have hf := kindsT_fits n t ks fuel _ _ hk h4
          rw [hflat] at hf
          have hj : j < ks.length := by rw [← hf.length.2]; exact (List.getElem?_eq_some_iff.1 hx).1
          obtain ⟨y, hy, hc, _⟩ := hf.get j ks[j] (List.getElem?_eq_getElem hj)
          have hki : ks[j] = .i64 := by
            have := List.all_eq_true.1 hall ks[j] (List.getElem_mem hj)
            revert this
            cases ks[j] <;> simp [isI64]
          rw [hx, Option.some.injEq] at hy
          subst hy
          rw [World.var?_cell h1 h3 j, ← Array.getElem?_toList, hc, hki]
  | [], [], _ :: _, _, h, _, _, _, _, _, _, _, _, _ => by simp [laidOk] at h
  | [], _ :: _, _, _, h, _, _, _, _, _, _, _, _, _ => by simp [laidOk] at h
  | _ :: _, [], _, _, h, _, _, _, _, _, _, _, _, _ => by simp [laidOk] at h
  | _ :: _, _ :: _, [], _, h, _, _, _, _, _, _, _, _, _ => by simp [laidOk] at h

section
variable {H : Type} {enc : TypeId × Value → H} {P : Program}

theorem carryAll (hlo : laidOutB P = true) {W W' : World} (hb : Below W.heap.size W W') : ∀ (ts : List TypeId) (vs : List Value) (ds : List (DataW H)) (p : List MemPlace), (∀ t ∈ ts, P.readableRec t = true ∧ t < P.types.size) →
    DataW.TrodAll enc P W 0 (fun _ => true) true ts vs ds p → (∀ x ∈ p, x.block < W.heap.size) → DataW.TrodAll enc P W' 0 (fun b => decide (b < W.heap.size)) true ts vs ds p
  | [], [], [], _, _, h, _ => h
  | t :: ts, v :: vs, d :: ds, p, ht, h, hp => by
    obtain ⟨p1, p2, h1, h2, rfl⟩ := h
    refine ⟨p1, p2, Below.trod hlo (ht t (by simp)).1 (ht t (by simp)).2 h1 hb fun x hx => hp x (by simp [hx]), ?_, rfl⟩
    exact carryAll hlo hb ts vs ds p2 (fun t ht' => ht t (by simp [ht'])) h2 fun x hx => hp x (by simp [hx])
  | [], [], _ :: _, _, _, h, _ => h.elim
  | [], _ :: _, _, _, _, h, _ => h.elim
  | _ :: _, [], _, _, _, h, _ => h.elim
  | _ :: _, _ :: _, [], _, _, h, _ => h.elim

theorem trodAll_length {w : World} {base : Nat} {spare : Nat → Bool} {held : Bool} : ∀ {ts : List TypeId} {vs : List Value} {ds : List (DataW H)} {p : List MemPlace}, DataW.TrodAll enc P w base spare held ts vs ds p → ds.length = ts.length
  | [], [], [], _, _ => rfl
  | _ :: _, _ :: _, _ :: _, _, h => by
    obtain ⟨_, _, _, h2, _⟩ := h
    simp [trodAll_length h2]
  | [], [], _ :: _, _, h => h.elim
  | [], _ :: _, _, _, h => h.elim
  | _ :: _, [], _, _, h => h.elim
  | _ :: _, _ :: _, [], _, h => h.elim

/-- THE FRAME: a call that answers true on every path, and leaves all as it was, meets the row's 'post'. -/
theorem law_post {fn : Func} {s : ChangeSpec} {apart fresh handsOn : Bool} {tb : TypeId} (hlo : laidOutB P = true) (hts : (fn.params.toList.all fun t => P.readableRec t && decide (t < P.types.size)) = true)
    (hres : fn.resultTypes = #[tb]) (hbool : P.underlying tb = some .bool) (hvars : s.vars = []) (hs : ∀ ds : List (DataW H), ds.length = fn.params.toList.length → s.fn H ds = { results := [.lit (.bool true)], args := ds })
    {W W' : World} {args : Array Value} {ds gs : List (DataW H)} {before : List MemPlace} (hW : DataW.Whole enc P fn.params.toList s.vars apart W args.toList ds gs before) (hb : Below W.heap.size W W') :
    s.post enc P fn apart fresh handsOn false W args (.bool true) W' := by
  have hlt := hW.lt
  obtain ⟨p, q, hA, hV, hpq, hfz, hnd⟩ := id hW
  rw [hvars] at hV
  obtain ⟨rfl, rfl⟩ := trodVars_none hV
  have hfn : s.fn H (ds ++ []) = { results := [.lit (.bool true)], args := ds } := by rw [List.append_nil]; exact hs ds (trodAll_length hA)
  refine ⟨ds, [], before, [], p, [], hW, ?_, ?_, ?_, hb.frame _, fun h => by cases h⟩
  · rw [hfn, hres]
    exact trodAll_mk1 (shut_bool hbool true)
  · rw [hfn]
    refine carryAll hlo hb _ _ _ _ (fun t ht => ?_) hA fun x hx => hlt x (by rw [hpq]; simp [hx])
    have := List.all_eq_true.1 hts t ht
    simpa using this
  · rw [hfn, hvars]
    rfl

theorem law_calls {fn : Func} {g : FuncId} {s : ChangeSpec} {apart fresh handsOn : Bool} {conds : List PathCond} {laid : List (String × DataW Unit)} {tb : TypeId} {sas : List SV} {l : List IntKind} (n : Nat) (G : List Nat) (Z : List (List Int)) (X : List (List SV)) (t : STree)
    (hsum : SumOk P (xOf X) (gxOf G) g ⟨sas, l.map ivT, t, [], []⟩) (ht : t.allTrue = true)
    (hlo : laidOutB P = true) (hts : (fn.params.toList.all fun t => P.readableRec t && decide (t < P.types.size)) = true)
    (hres : fn.resultTypes = #[tb]) (hbool : P.underlying tb = some .bool) (hvars : s.vars = []) (hs : ∀ ds : List (DataW H), ds.length = fn.params.toList.length → s.fn H ds = { results := [.lit (.bool true)], args := ds })
    (hplain : (laid.all fun x => x.2.handleName?.isNone) = true) (hlaid : laidOk P n laid G Z = true) (hX : X = Z.map rowS) (hargs : argsS P n 0 fn.params.toList = some (sas, l)) (hG : Nat.ble G.length 1000 = true)
    (W : World) (base : Nat) (args : Array Value) (ds gs : List (DataW H)) (before : List MemPlace)
    (hval : ∀ (j : Nat) t v, fn.params[j]? = some t → args[j]? = some v → Value.okWide P W .any base t v)
    (hW : DataW.Whole enc P fn.params.toList s.vars apart W args.toList ds gs before)
    (_ : conds.all (PathCond.test P ⟨fn.params.toList, ds, s.plain.varTypes P, gs⟩) = true)
    (_ : (DataW.weightsEach P (fn.params.toList ++ s.plain.varTypes P) (ds ++ gs)).all (· ≤ reachBytes) = true) (hL : laidMetH P laid W) :
    Calls P g args W fun e W' => ∃ v, e = .returned v ∧ s.post enc P fn apart fresh handsOn false W args v W' := by
  obtain ⟨p, q, hA, _⟩ := id hW
  rw [MakeChecks.laidMetH_plain _ _ _ hplain] at hL
  obtain ⟨ps, hLV, _⟩ := hL
  obtain ⟨cs, zs, hf, hden⟩ := argsS_den (r := .any) (base := base) fn.params.toList 0 sas l args.toList ds p hargs hA fun j t v ht hv => hval j t v (by simpa using ht) (by simpa using hv)
  let D : Den := { env := { v := fun i => zs.getD i 0, f := stdF }, xi := fun i => ⟨G.getD i 0, 0, none⟩, xs := fun _ => (none, 0) }
  have hdenA := hden D (fun _ => none) fun j z hz => by simp [D, hz]
  have hB : BaseOk ⟨W, xOf X⟩ D := ⟨fun i j v hv => by
    subst hX
    simp only [xOf, List.getD_eq_getElem?_getD, List.getElem?_map] at hv
    cases hz : Z[i]? with
    | none => rw [hz] at hv; simp at hv
    | some z =>
      rw [hz] at hv
      simp only [Option.map_some, Option.getD_some] at hv
      obtain ⟨x, hx, rfl⟩ := rowS_get hv
      refine ⟨.int .i64 x, by simp [SV.den, Poly.ev_lit], ?_⟩
      have hg : ∃ g, G[i]? = some g := by
        have hlen : ∀ {laid : List (String × DataW Unit)} {G : List Nat} {Z : List (List Int)}, laidOk P n laid G Z = true → G.length = Z.length := by
          intro laid
          induction laid with
          | nil => intro G Z h; cases G <;> cases Z <;> simp_all [laidOk]
          | cons a laid ih =>
            intro G Z h
            cases G with
            | nil => simp [laidOk] at h
            | cons g G =>
              cases Z with
              | nil => simp [laidOk] at h
              | cons z Z =>
                simp only [laidOk] at h
                split at h
                · simp at h
                · split at h
                  · simp at h
                  · split at h
                    · simp at h
                    · simp only [Bool.and_eq_true] at h
                      simp [ih h.2.2.2]
        have := hlen hlaid
        have hi := (List.getElem?_eq_some_iff.1 hz).1
        exact ⟨G[i], List.getElem?_eq_getElem (by omega)⟩
      obtain ⟨g, hg⟩ := hg
      have := laid_cells hlaid hLV hg hz hx
      simpa [D, hg] using this⟩
  have hgx : ∀ g i, gxOf G g = some i → i < 1000 ∧ D.xi i = ⟨g, 0, none⟩ := fun g i h => by
    have := (natIdx_ok h).2
    simp only [Nat.sub_zero] at this
    have h2 := (List.getElem?_eq_some_iff.1 this).1
    have h3 := Nat.le_of_ble_eq_true hG
    exact ⟨by omega, by simp [D, this]⟩
  have hB' : BaseOk ⟨W, xWith (xOf X) []⟩ D := ⟨fun i j v hv => by
    by_cases hi : i < 1000
    · exact hB.row i j v (by rw [show (Base.mk W (xWith (xOf X) [])).X i = xOf X i from xWith_lt hi] at hv; exact hv)
    · rw [show (Base.mk W (xWith (xOf X) [])).X i = [] from xWith_ge hi] at hv
      simp at hv⟩
  have := hsum D W hB' rfl hgx (fun i k hk => by
    rw [List.getElem?_map] at hk
    cases hl : l[i]? with
    | none => rw [hl] at hk; simp at hk
    | some k' =>
      rw [hl] at hk
      simp only [Option.map_some, Option.some.injEq] at hk
      subst hk
      obtain ⟨z, hz, _, hb⟩ := hf.get i k' hl
      have : D.env.v i = z := by simp [D, hz]
      rw [this]
      exact ivT_has hb) _ hdenA
  rw [Array.toArray_toList] at this
  refine this.mono fun e W' he => ?_
  obtain ⟨V, μ, h1, h2, h3⟩ := he
  rw [show (t.at D.env).1.den D μ = some (.bool true) from STree.allTrue_ev ht] at h2
  simp only [Option.some.injEq] at h2
  subst h2
  exact ⟨_, h1, law_post hlo hts hres hbool hvars hs hW h3.below⟩
end

end Go.Sym

/- SymGo, part 9: regions that draw their order: what is asked of one so that every order comes to the same, and the pieces of the proof. -/
import Derived.Test.YtjghifocfjbmcabDoorSym8
namespace Go.Sym

mutual
def SV.same : SV → SV → Bool
  | .int k p, v => match v with | .int l q => Nat.beq (kidx k) (kidx l) && Poly.same p q | _ => false
  | .bool a, v => match v with | .bool b => a == b | _ => false
  | .ptr a b, v => match v with | .ptr c d => Nat.beq a c && Nat.beq b d | _ => false
  | .xptr a b, v => match v with | .xptr c d => Nat.beq a c && Nat.beq b d | _ => false
  | .slice a b c d e, v => match v with | .slice f g h i j => Nat.beq a f && (Nat.beq b g && (Nat.beq c h && (Nat.beq d i && (e == j)))) | _ => false
  | .xslice a b c d, v => match v with | .xslice f g h i => Nat.beq a f && (Nat.beq b g && (Nat.beq c h && Nat.beq d i)) | _ => false
  | .xlen a p, v => match v with | .xlen b q => Nat.beq a b && Poly.same p q | _ => false
  | .aslice a b c, v => match v with | .aslice d e f => Nat.beq a d && (Nat.beq b e && Nat.beq c f) | _ => false
  | .oslice a b, v => match v with | .oslice d e => Nat.beq a d && Nat.beq b e | _ => false
  | .agg l, v => match v with | .agg m => SV.sameL l m | _ => false
  | .tuple l, v => match v with | .tuple m => SV.sameL l m | _ => false
  | .func f a b, v => match v with | .func g c d => Nat.beq f g && (SV.sameL a c && SV.sameL b d) | _ => false
  | .raw x, v => match x, v with
    | .slice none a b, .raw (.slice none c d) => Nat.beq a c && Nat.beq b d
    | .pointer none, .raw (.pointer none) => true
    | .nilFunc, .raw .nilFunc => true
    | _, _ => false
def SV.sameL : List SV → List SV → Bool
  | [], m => match m with | [] => true | _ => false
  | v :: l, m => match m with | u :: r => v.same u && SV.sameL l r | [] => false
end

mutual
theorem SV.same_eq : ∀ {v u : SV}, v.same u = true → v = u
  | .int k p, u, h => by
    cases u <;> simp only [SV.same, Bool.and_eq_true] at h <;> first | (simp at h; done) | (rw [kidx_inj (beq_iff.1 h.1), Poly.same_eq h.2])
  | .bool a, u, h => by cases u <;> simp only [SV.same] at h <;> first | (simp at h; done) | (rw [eq_of_beq h])
  | .ptr a b, u, h => by cases u <;> simp only [SV.same, Bool.and_eq_true] at h <;> first | (simp at h; done) | (rw [beq_iff.1 h.1, beq_iff.1 h.2])
  | .xptr a b, u, h => by cases u <;> simp only [SV.same, Bool.and_eq_true] at h <;> first | (simp at h; done) | (rw [beq_iff.1 h.1, beq_iff.1 h.2])
  | .slice a b c d e, u, h => by cases u <;> simp only [SV.same, Bool.and_eq_true] at h <;> first | (simp at h; done) | (rw [beq_iff.1 h.1, beq_iff.1 h.2.1, beq_iff.1 h.2.2.1, beq_iff.1 h.2.2.2.1, eq_of_beq h.2.2.2.2])
  | .xslice a b c d, u, h => by cases u <;> simp only [SV.same, Bool.and_eq_true] at h <;> first | (simp at h; done) | (rw [beq_iff.1 h.1, beq_iff.1 h.2.1, beq_iff.1 h.2.2.1, beq_iff.1 h.2.2.2])
  | .xlen a p, u, h => by cases u <;> simp only [SV.same, Bool.and_eq_true] at h <;> first | (simp at h; done) | (rw [beq_iff.1 h.1, Poly.same_eq h.2])
  | .oslice a b, u, h => by cases u <;> simp only [SV.same, Bool.and_eq_true] at h <;> first | (simp at h; done) | (rw [beq_iff.1 h.1, beq_iff.1 h.2])
  | .aslice a b c, u, h => by cases u <;> simp only [SV.same, Bool.and_eq_true] at h <;> first | (simp at h; done) | (rw [beq_iff.1 h.1, beq_iff.1 h.2.1, beq_iff.1 h.2.2])
  | .agg l, u, h => by cases u <;> simp only [SV.same] at h <;> first | (simp at h; done) | (rw [SV.sameL_eq h])
  | .tuple l, u, h => by cases u <;> simp only [SV.same] at h <;> first | (simp at h; done) | (rw [SV.sameL_eq h])
  | .func f a b, u, h => by cases u <;> simp only [SV.same, Bool.and_eq_true] at h <;> first | (simp at h; done) | (rw [beq_iff.1 h.1, SV.sameL_eq h.2.1, SV.sameL_eq h.2.2])
  | .raw x, u, h => by
    simp only [SV.same] at h
    split at h
    · simp only [Bool.and_eq_true] at h; rw [beq_iff.1 h.1, beq_iff.1 h.2]
    · rfl
    · rfl
    · simp at h
theorem SV.sameL_eq : ∀ {l m : List SV}, SV.sameL l m = true → l = m
  | [], m, h => by cases m <;> simp [SV.sameL] at h; rfl
  | v :: l, m, h => by
    cases m with
    | nil => simp [SV.sameL] at h
    | cons u r => simp only [SV.sameL, Bool.and_eq_true] at h; rw [SV.same_eq h.1, SV.sameL_eq h.2]
end

/-- Which operations stand before one, by the edges: a number whose bits say so. -/
def maskE (M : List Nat) : List Edge → Nat
  | [] => 0
  | e :: r => match Region.binds .any e with
    | true => (maskE M r ||| (1 <<< e.on)) ||| M.getD e.on 0
    | false => maskE M r
def masksF : List Nat → List Oper → List Nat
  | M, [] => M
  | M, o :: r => masksF (M ++ [maskE M o.after.toList]) r

theorem maskE_bit {M : List Nat} {j : Nat} : ∀ {l : List Edge}, (maskE M l).testBit j = true → ∃ e ∈ l, Region.binds .any e = true ∧ (j = e.on ∨ (M.getD e.on 0).testBit j = true)
  | [], h => by simp [maskE] at h
  | e :: r, h => by
    simp only [maskE] at h
    split at h
    · rename_i hb
      simp only [Nat.testBit_or, Bool.or_eq_true] at h
      rcases h with (h | h) | h
      · obtain ⟨d, h1, h2⟩ := maskE_bit h
        exact ⟨d, List.mem_cons_of_mem _ h1, h2⟩
      · refine ⟨e, List.mem_cons_self, hb, .inl ?_⟩
        rw [Nat.one_shiftLeft, Nat.testBit_two_pow] at h
        simp at h; exact h.symm
      · exact ⟨e, List.mem_cons_self, hb, .inr h⟩
    · obtain ⟨d, h1, h2⟩ := maskE_bit h
      exact ⟨d, List.mem_cons_of_mem _ h1, h2⟩
theorem masksF_take : ∀ (r : List Oper) (M : List Nat), (masksF M r).take M.length = M ∧ (masksF M r).length = M.length + r.length
  | [], M => by simp [masksF]
  | o :: r, M => by
    obtain ⟨h1, h2⟩ := masksF_take r (M ++ [maskE M o.after.toList])
    simp only [masksF]
    refine ⟨?_, by rw [h2]; simp; omega⟩
    have := congrArg (List.take M.length) h1
    rw [List.take_take] at this
    simpa using this
theorem masksF_get : ∀ (r : List Oper) (M : List Nat) (i : Nat) (o : Oper), r[i]? = some o → (masksF M r)[M.length + i]? = some (maskE ((masksF M r).take (M.length + i)) o.after.toList)
  | [], M, i, o, h => by simp at h
  | x :: r, M, 0, o, h => by
    simp at h
    subst h
    obtain ⟨h1, h2⟩ := masksF_take r (M ++ [maskE M x.after.toList])
    have h3 := (masksF_take (x :: r) M).1
    have e : masksF M (x :: r) = masksF (M ++ [maskE M x.after.toList]) r := rfl
    rw [Nat.add_zero, h3]
    have := congrArg (fun l => l[M.length]?) h1
    simp only [List.getElem?_take, List.length_append, List.length_singleton] at this
    rw [if_pos (by omega)] at this
    rw [e, this]
    simp
  | x :: r, M, i + 1, o, h => by
    have ih := masksF_get r (M ++ [maskE M x.after.toList]) i o (by simpa using h)
    have e : masksF M (x :: r) = masksF (M ++ [maskE M x.after.toList]) r := rfl
    rw [e]
    have e2 : M.length + (i + 1) = (M ++ [maskE M x.after.toList]).length + i := by simp; omega
    rw [e2]
    exact ih

/-- The masks of a region's operations. -/
def masks (ops : Array Oper) : List Nat := masksF [] ops.toList
theorem masks_length (ops : Array Oper) : (masks ops).length = ops.size := by
  have := (masksF_take ops.toList []).2
  simpa [masks] using this
theorem masks_get {ops : Array Oper} {i : Nat} {o : Oper} (h : ops[i]? = some o) : (masks ops)[i]? = some (maskE ((masks ops).take i) o.after.toList) := by
  have := masksF_get ops.toList [] i o (by simpa using h)
  simpa [masks] using this

def lst (listed : Array Bool) (i : Nat) : Prop := listed.getD i false = true
def Closed (ops : Array Oper) (listed : Array Bool) : Prop := ∀ i o, ops[i]? = some o → lst listed i → ∀ e ∈ o.after, Region.binds .any e = true → lst listed e.on

/-- What stands before a listed operation is listed. -/
theorem mask_listed {ops : Array Oper} {listed : Array Bool} (hc : Closed ops listed) : ∀ (i : Nat) (o : Oper), ops[i]? = some o → (∀ e ∈ o.after, Region.binds .any e = true → lst listed e.on) →
    ∀ j, ((masks ops).getD i 0).testBit j = true → lst listed j := by
  intro i
  induction i using Nat.strongRecOn with
  | _ i ih =>
    intro o ho hl j hj
    rw [List.getD, masks_get ho, Option.getD_some] at hj
    obtain ⟨e, he, hb, h⟩ := maskE_bit hj
    have hel := hl e (by simpa using he) hb
    rcases h with rfl | h
    · exact hel
    · by_cases hlt : e.on < i
      · rw [List.getD, List.getElem?_take, if_pos hlt] at h
        have hlt2 : e.on < ops.size := by have := (Array.getElem?_eq_some_iff.1 ho).1; omega
        exact ih e.on hlt ops[e.on] (by simp [hlt2]) (hc e.on _ (by simp [hlt2]) hel) j (by rw [List.getD]; exact h)
      · rw [List.getD, List.getElem?_take, if_neg hlt] at h
        simp at h

def isEff (o : Oper) : Bool := match cls o.op with
  | .eff => true
  | _ => false
def isAlloc (o : Oper) : Bool := match cls o.op with
  | .alloc => true
  | _ => false
def dstNe (x y : Oper) : Bool := match x.dst, y.dst with
  | some a, some b => !Nat.beq a b
  | _, _ => true
/-- What is asked of two operations, the first of which stands before the other in the text; m: the mask of the other. -/
def pairOk (ops : Array Oper) (i : Nat) (x : Oper) (m : Nat) (y : Oper) : Bool :=
  dstNe x y && ((m.testBit i) || (Oper.apart ops x y && !(isEff x && isEff y)))
def pairsOk (ops : Array Oper) : List (Nat × Oper) → List Oper → List Nat → Nat → Bool
  | pre, o :: r, m :: ms, k => pre.all (fun p => pairOk ops p.1 p.2 m o) && (o.after.toList.all (fun e => !Region.binds .any e || Nat.blt e.on k) && pairsOk ops ((k, o) :: pre) r ms (k + 1))
  | _, [], _, _ => true
  | _, _, [], _ => false
theorem pairsOk_spec {ops : Array Oper} : ∀ (r : List Oper) (ms : List Nat) (k : Nat) (pre : List (Nat × Oper)), pairsOk ops pre r ms k = true →
    (∀ j o, r[j]? = some o → (∀ p ∈ pre, pairOk ops p.1 p.2 (ms.getD j 0) o = true) ∧ (∀ e ∈ o.after, Region.binds .any e = true → e.on < k + j)) ∧
    (∀ i j x o, i < j → r[i]? = some x → r[j]? = some o → pairOk ops (k + i) x (ms.getD j 0) o = true)
  | [], ms, k, pre, _ => ⟨fun j o h => by simp at h, fun i j x o _ h => by simp at h⟩
  | o :: r, [], k, pre, h => by simp [pairsOk] at h
  | o :: r, m :: ms, k, pre, h => by
    simp only [pairsOk, Bool.and_eq_true] at h
    obtain ⟨h1, h2, h3⟩ := h
    obtain ⟨g1, g2⟩ := pairsOk_spec r ms (k + 1) ((k, o) :: pre) h3
    refine ⟨fun j u hu => ?_, fun i j x u hij hx hu => ?_⟩
    · cases j with
      | zero =>
        simp at hu
        subst hu
        refine ⟨fun p hp => by simpa using (List.all_eq_true.1 h1) p hp, fun e he hb => ?_⟩
        have := (List.all_eq_true.1 h2) e (by simpa using he)
        simp only [hb, Bool.not_true, Bool.false_or] at this
        exact blt_iff.1 this
      | succ j =>
        obtain ⟨q1, q2⟩ := g1 j u (by simpa using hu)
        refine ⟨fun p hp => by simpa using q1 p (List.mem_cons_of_mem _ hp), fun e he hb => by have := q2 e he hb; omega⟩
    · cases j with
      | zero => omega
      | succ j =>
        cases i with
        | zero =>
          simp at hx
          subst hx
          have := (g1 j u (by simpa using hu)).1 (k, o) List.mem_cons_self
          simpa using this
        | succ i =>
          have := g2 i j x u (by omega) (by simpa using hx) (by simpa using hu)
          have e : k + (i + 1) = k + 1 + i := by omega
          rw [e]
          simpa using this
def regOk (ops : Array Oper) : Bool := pairsOk ops [] ops.toList (masks ops) 0
structure RegOk (ops : Array Oper) : Prop where
  back : ∀ j o, ops[j]? = some o → ∀ e ∈ o.after, Region.binds .any e = true → e.on < j
  dst : ∀ (i j : Nat) (x y : Oper) (d : Tmp), i ≠ j → ops[i]? = some x → ops[j]? = some y → x.dst = some d → y.dst ≠ some d
  looks : ∀ i j x y, i < j → ops[i]? = some x → ops[j]? = some y → ((masks ops).getD j 0).testBit i = true ∨ (Oper.apart ops x y = true ∧ ¬ (isEff x = true ∧ isEff y = true))
theorem regOk_spec {ops : Array Oper} (h : regOk ops = true) : RegOk ops := by
  obtain ⟨h1, h2⟩ := pairsOk_spec ops.toList (masks ops) 0 [] h
  have pr : ∀ i j x y, i < j → ops[i]? = some x → ops[j]? = some y → pairOk ops i x ((masks ops).getD j 0) y = true := fun i j x y hij hx hy => by
    have := h2 i j x y hij (by simpa using hx) (by simpa using hy)
    simpa using this
  have ne : ∀ (i j : Nat) (x y : Oper) (d : Tmp), i < j → ops[i]? = some x → ops[j]? = some y → x.dst = some d → y.dst = some d → False := fun i j x y d hij hx hy hd he => by
    have := pr i j x y hij hx hy
    simp only [pairOk, dstNe, hd, he, Bool.and_eq_true] at this
    simp at this
  refine ⟨fun j o ho e he hb => by have := (h1 j o (by simpa using ho)).2 e he hb; omega, fun i j x y d hne hx hy hd he => ?_, fun i j x y hij hx hy => ?_⟩
  · rcases Nat.lt_or_gt_of_ne hne with hlt | hlt
    · exact ne i j x y d hlt hx hy hd he
    · exact ne j i y x d hlt hy hx he hd
  · have := pr i j x y hij hx hy
    simp only [pairOk, Bool.and_eq_true, Bool.or_eq_true] at this
    rcases this.2 with h3 | ⟨h3, h4⟩
    · exact .inl h3
    · exact .inr ⟨h3, fun ⟨e1, e2⟩ => by rw [e1, e2] at h4; simp at h4⟩

/-- The numbers of the operations that write, make memory or call, with their masks. -/
def effIdx : List Oper → List Nat → Nat → List (Nat × Nat)
  | o :: r, m :: ms, k => match isEff o with
    | true => (k, m) :: effIdx r ms (k + 1)
    | false => effIdx r ms (k + 1)
  | _, _, _ => []
def cnt (p : Oper → Bool) (l : List Oper) (i : Nat) : Nat := (l.take i).countP p
theorem effIdx_mem : ∀ {r : List Oper} {ms : List Nat} {k : Nat} {p : Nat × Nat}, p ∈ effIdx r ms k → ∃ j o, p.1 = k + j ∧ r[j]? = some o ∧ isEff o = true ∧ ms[j]? = some p.2
  | [], ms, k, p, h => by cases ms <;> simp [effIdx] at h
  | o :: r, [], k, p, h => by simp [effIdx] at h
  | o :: r, m :: ms, k, p, h => by
    simp only [effIdx] at h
    split at h
    · rename_i he
      rcases List.mem_cons.1 h with rfl | h
      · exact ⟨0, o, rfl, rfl, he, rfl⟩
      · obtain ⟨j, u, h1, h2, h3, h4⟩ := effIdx_mem h
        exact ⟨j + 1, u, by omega, by simpa using h2, h3, by simpa using h4⟩
    · obtain ⟨j, u, h1, h2, h3, h4⟩ := effIdx_mem h
      exact ⟨j + 1, u, by omega, by simpa using h2, h3, by simpa using h4⟩
theorem effIdx_count : ∀ (r : List Oper) (ms : List Nat) (k i : Nat), r.length ≤ ms.length → (effIdx r ms k).countP (fun p => Nat.blt p.1 (k + i)) = cnt isEff r i
  | [], ms, k, i, _ => by cases ms <;> simp [effIdx, cnt]
  | o :: r, [], k, i, h => by simp at h
  | o :: r, m :: ms, k, 0, h => by
    have h0 : cnt isEff (o :: r) 0 = 0 := rfl
    rw [h0, List.countP_eq_zero]
    intro p hp
    obtain ⟨j, u, h1, _⟩ := effIdx_mem hp
    intro hlt
    have := blt_iff.1 hlt
    omega
  | o :: r, m :: ms, k, i + 1, h => by
    have ih := effIdx_count r ms (k + 1) i (by simpa using h)
    have e : k + (i + 1) = k + 1 + i := by omega
    simp only [effIdx, cnt, List.take_succ_cons, List.countP_cons] at *
    split
    · rename_i he
      rw [List.countP_cons, e, ih, he]
      have : Nat.blt k (k + 1 + i) = true := blt_iff.2 (by omega)
      simp [this]
    · rename_i he
      rw [e, ih, he]
      simp

/-- A step of the run of a drawn region; the blocks of its variables are listed beforehand. -/
def stepD (call : CallF) (C : Cfg) (nt : Nat) (ops : Array Oper) (id : Nat) (o : Oper) (T : Tree SV) (s : St) : R (Tree SV × St) := (wantS ops T o).bind fun b => match b with
  | true => (match isAlloc o with
      | true => .ok (.ptr id 0, s)
      | false => valS call C (evO C T) s o : R (SV × St)).bind fun r => (putS nt T o.dst r.1).bind fun T' => .ok (T', r.2)
  | false => (putS nt T o.dst undefS).bind fun T' => .ok (T', s)

def nextId (o : Oper) (id : Nat) : Nat := match isAlloc o with
  | true => id + 1
  | false => id
/-- The states before each operation and at the end; the states from one effect to the next. -/
def runD (call : CallF) (C : Cfg) (nt : Nat) (ops : Array Oper) : List Oper → Nat → Tree SV → St → R (List (Tree SV × St) × List St)
  | [], _, T, s => .ok ([(T, s)], [s])
  | o :: r, id, T, s => (stepD call C nt ops id o T s).bind fun x => (runD call C nt ops r (nextId o id) x.1 x.2).bind fun y => match isEff o with
    | true => .ok ((T, s) :: y.1, s :: y.2)
    | false => .ok ((T, s) :: y.1, y.2)

theorem stepD_quiet {call : CallF} {C : Cfg} {nt : Nat} {ops : Array Oper} {id : Nat} {o : Oper} {T T' : Tree SV} {s s' : St} (h : stepD call C nt ops id o T s = .ok (T', s')) (he : isEff o = false) : s' = s := by
  obtain ⟨b, hb, h1⟩ := R.bind_ok h
  split at h1
  · obtain ⟨r, hr, h2⟩ := R.bind_ok h1
    obtain ⟨T1, _, h3⟩ := R.bind_ok h2
    simp only [R.ok.injEq, Prod.mk.injEq] at h3
    rw [← h3.2]
    cases ha : isAlloc o
    case true => rw [ha] at hr; simp only [R.ok.injEq] at hr; rw [← hr]
    case false =>
      rw [ha] at hr
      simp only [] at hr
      unfold isEff at he
      unfold valS at hr
      split at hr
      · obtain ⟨v, _, h5⟩ := R.bind_ok hr; simp only [R.ok.injEq] at h5; rw [← h5]
      · split at hr
        · obtain ⟨u, _, h5⟩ := R.bind_ok hr
          obtain ⟨v, _, h6⟩ := R.bind_ok h5
          simp only [R.ok.injEq] at h6; rw [← h6]
        · simp at hr
      · rename_i hc
        unfold isAlloc at ha
        rw [hc] at ha
        simp at ha
      · rename_i hc
        rw [hc] at he
        simp at he
  · obtain ⟨T1, _, h3⟩ := R.bind_ok h1
    simp only [R.ok.injEq, Prod.mk.injEq] at h3
    exact h3.2.symm

structure Traced (call : CallF) (C : Cfg) (nt : Nat) (ops : Array Oper) (r : List Oper) (id : Nat) (T : Tree SV) (s : St) (L : List (Tree SV × St)) (E : List St) : Prop where
  head : L[0]? = some (T, s)
  len : L.length = r.length + 1
  step : ∀ i o, r[i]? = some o → ∃ x y, L[i]? = some x ∧ L[i + 1]? = some y ∧ stepD call C nt ops (id + cnt isAlloc r i) o x.1 x.2 = .ok y
  eff : ∀ i x, L[i]? = some x → E[cnt isEff r i]? = some x.2
theorem runD_ok {call : CallF} {C : Cfg} {nt : Nat} {ops : Array Oper} : ∀ (r : List Oper) (id : Nat) (T : Tree SV) (s : St) (L : List (Tree SV × St)) (E : List St), runD call C nt ops r id T s = .ok (L, E) →
    Traced call C nt ops r id T s L E
  | [], id, T, s, L, E, h => by
    simp only [runD, R.ok.injEq, Prod.mk.injEq] at h
    obtain ⟨rfl, rfl⟩ := h
    refine ⟨rfl, rfl, fun i o ho => by simp at ho, fun i x hx => ?_⟩
    cases i with
    | zero => simp at hx; subst hx; rfl
    | succ i => simp at hx
  | o :: r, id, T, s, L, E, h => by
    simp only [runD] at h
    obtain ⟨x, hx, h1⟩ := R.bind_ok h
    obtain ⟨y, hy, h2⟩ := R.bind_ok h1
    have tr := runD_ok r (nextId o id) x.1 x.2 y.1 y.2 hy
    have hid : ∀ i, nextId o id + cnt isAlloc r i = id + cnt isAlloc (o :: r) (i + 1) := fun i => by
      simp only [nextId, cnt, List.take_succ_cons, List.countP_cons]
      cases isAlloc o <;> simp <;> omega
    have hL : L = (T, s) :: y.1 := by
      split at h2 <;> (simp only [R.ok.injEq, Prod.mk.injEq] at h2; exact h2.1.symm)
    subst hL
    refine ⟨rfl, by simp [tr.len], fun i u hu => ?_, fun i z hz => ?_⟩
    · cases i with
      | zero =>
        simp at hu
        subst hu
        refine ⟨(T, s), x, rfl, by simpa using tr.head, ?_⟩
        simpa [cnt] using hx
      | succ i =>
        obtain ⟨p, q, h3, h4, h5⟩ := tr.step i u (by simpa using hu)
        exact ⟨p, q, by simpa using h3, by simpa using h4, by rw [← hid]; exact h5⟩
    · cases he : isEff o
      · rw [he] at h2
        simp only [R.ok.injEq, Prod.mk.injEq] at h2
        rw [← h2.2]
        cases i with
        | zero =>
          simp at hz
          subst hz
          have := stepD_quiet hx he
          have h6 := tr.eff 0 x (by simpa using tr.head)
          simp [cnt] at h6 ⊢
          rw [h6, this]
        | succ i =>
          have := tr.eff i z (by simpa using hz)
          simpa [cnt, he] using this
      · rw [he] at h2
        simp only [R.ok.injEq, Prod.mk.injEq] at h2
        rw [← h2.2]
        cases i with
        | zero => simp at hz; subst hz; simp [cnt]
        | succ i =>
          have := tr.eff i z (by simpa using hz)
          simpa [cnt, he] using this

/-- What is asked of a load, and of a variable's block: that the states in which the operation may come up show it the same. -/
def stableAt (C : Cfg) (E : List St) (EI : List (Nat × Nat)) (k m c id : Nat) (o : Oper) (T : Tree SV) (s : St) : Bool := match o.op with
  | .load t x => match EI.countP (fun p => m.testBit p.1), EI.countP (fun p => !p.2.testBit k) with
    | lo, hi => (Nat.beq lo c && Nat.beq hi c) || (match evO C T x with
      | .ok a => match loadS C s t a with
        | .ok v => (List.range' lo (hi + 1 - lo)).all fun j => match E[j]? with
          | some sj => match loadS C sj t a with
            | .ok u => SV.same v u
            | _ => false
          | none => true
        | _ => true
      | _ => true)
  | .alloc t => match zeroS C t with
    | .ok z => (List.range (EI.countP (fun p => !p.2.testBit k) + 1)).all fun j => match E[j]? with
      | some sj => match sj.H.get id with
        | some b => Nat.beq b.kind 0 && SV.sameL b.cells z
        | none => false
      | none => true
    | _ => false
  | _ => true
def stableAll (C : Cfg) (E : List St) (EI : List (Nat × Nat)) : List Oper → List Nat → Nat → Nat → Nat → List (Tree SV × St) → Bool
  | o :: r, m :: ms, k, c, id, x :: L => stableAt C E EI k m c id o x.1 x.2 && stableAll C E EI r ms (k + 1) (match isEff o with | true => c + 1 | false => c) (nextId o id) L
  | [], _, _, _, _, _ => true
  | _, _, _, _, _, _ => false
theorem stableAll_spec {C : Cfg} {E : List St} {EI : List (Nat × Nat)} : ∀ (r : List Oper) (ms : List Nat) (k c id : Nat) (L : List (Tree SV × St)), stableAll C E EI r ms k c id L = true →
    ∀ i o m x, r[i]? = some o → ms[i]? = some m → L[i]? = some x → stableAt C E EI (k + i) m (c + cnt isEff r i) (id + cnt isAlloc r i) o x.1 x.2 = true
  | [], ms, k, c, id, L, _, i, o, m, x, ho, _, _ => by simp at ho
  | u :: r, [], k, c, id, L, h, i, o, m, x, ho, hm, hx => by simp at hm
  | u :: r, _ :: ms, k, c, id, [], h, i, o, m, x, ho, hm, hx => by simp at hx
  | u :: r, n :: ms, k, c, id, y :: L, h, i, o, m, x, ho, hm, hx => by
    simp only [stableAll, Bool.and_eq_true] at h
    cases i with
    | zero =>
      simp at ho hm hx
      subst ho hm hx
      simpa [cnt] using h.1
    | succ i =>
      have := stableAll_spec r ms _ _ _ L h.2 i o m x (by simpa using ho) (by simpa using hm) (by simpa using hx)
      have e1 : k + (i + 1) = k + 1 + i := by omega
      have e2 : c + cnt isEff (u :: r) (i + 1) = (match isEff u with | true => c + 1 | false => c) + cnt isEff r i := by
        simp only [cnt, List.take_succ_cons, List.countP_cons]
        cases isEff u <;> simp <;> omega
      have e3 : id + cnt isAlloc (u :: r) (i + 1) = nextId u id + cnt isAlloc r i := by
        simp only [nextId, cnt, List.take_succ_cons, List.countP_cons]
        cases isAlloc u <;> simp <;> omega
      rw [e1, e2, e3]
      exact this

/-- The blocks of a region's variables, listed beforehand. -/
def allocAll (C : Cfg) : List Oper → St → R St
  | [], s => .ok s
  | o :: r, s => match o.op with
    | .alloc t => (zeroS C t).bind fun z => allocAll C r (s.new z)
    | _ => allocAll C r s
theorem isAlloc_alloc {o : Oper} {t : TypeId} (h : o.op = .alloc t) : isAlloc o = true := by unfold isAlloc; rw [h]; rfl
theorem isAlloc_op {o : Oper} (h : isAlloc o = true) : ∃ t, o.op = .alloc t := by
  unfold isAlloc at h
  cases hop : o.op <;> rw [hop] at h <;> simp only [cls] at h
  case alloc t => exact ⟨t, rfl⟩
  case call c => cases hc : c.callee <;> simp only [hc] at h <;> first | (simp at h; done) | (rename_i b; cases b <;> simp at h)
  all_goals simp at h
theorem allocAll_ok {C : Cfg} {B : Base} {D : Den} {μ : Mu} {w : World} : ∀ (r : List Oper) (s s' : St), allocAll C r s = .ok s' → Rep B D μ s w → Rep B D μ s' w ∧ s'.n = s.n + r.countP isAlloc
  | [], s, s', h, hr => by simp only [allocAll, R.ok.injEq] at h; subst h; exact ⟨hr, rfl⟩
  | o :: r, s, s', h, hr => by
    simp only [allocAll] at h
    split at h
    · rename_i t ht
      obtain ⟨z, _, h1⟩ := R.bind_ok h
      obtain ⟨h2, h3⟩ := allocAll_ok r _ s' h1 (hr.listed z)
      refine ⟨h2, ?_⟩
      rw [h3, List.countP_cons, isAlloc_alloc ht]
      simp [St.new]
      omega
    · rename_i hno
      obtain ⟨h2, h3⟩ := allocAll_ok r s s' h hr
      refine ⟨h2, ?_⟩
      have : isAlloc o = false := by
        cases ha : isAlloc o
        · rfl
        · obtain ⟨t, ht⟩ := isAlloc_op ha
          exact absurd ht (hno t)
      rw [h3, List.countP_cons, this]
      simp

/-- The run of a drawn region. -/
def drawnS (call : CallF) (C : Cfg) (nt : Nat) (ops : Array Oper) (T : Tree SV) (s : St) : R (Tree SV × St) := R.then (regOk ops) "a drawn region of another form"
  ((allocAll C ops.toList s).bind fun s0 => (runD call C nt ops ops.toList s.n T s0).bind fun x =>
    R.then (stableAll C x.2 (effIdx ops.toList (masks ops) 0) ops.toList (masks ops) 0 0 s.n x.1) "a drawn region: the order shows"
      (match x.1[ops.size]? with
       | some y => .ok y
       | none => .fail "a drawn region: no end"))

end Go.Sym

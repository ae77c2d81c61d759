/- SymGo, part 10: a drawn region comes to the same in every order. -/
import Derived.Test.YtjghifocfjbmcabDoorSym9
namespace Go.Sym

theorem R.bind_congr {α β : Type} {x y : R α} {f g : α → R β} (h : x = y) (hf : ∀ a, f a = g a) : x.bind f = y.bind g := by
  subst h
  cases x <;> simp [R.bind, hf]
theorem evL_congr {ev ev' : Operand → R SV} : ∀ {l : List Operand}, (∀ x ∈ l, ev x = ev' x) → evL ev l = evL ev' l
  | [], _ => rfl
  | x :: l, h => by
    simp only [evL]
    exact R.bind_congr (h x List.mem_cons_self) fun v => R.bind_congr (evL_congr fun y hy => h y (List.mem_cons_of_mem _ hy)) fun _ => rfl
theorem evParts_congr {ev ev' : Operand → R SV} : ∀ {l : List (Nat × Operand)}, (∀ x ∈ l, ev x.2 = ev' x.2) → evParts ev l = evParts ev' l
  | [], _ => rfl
  | (i, x) :: l, h => by
    simp only [evParts]
    refine R.bind_congr (h (i, x) List.mem_cons_self) fun v => ?_
    rw [evParts_congr fun y hy => h y (List.mem_cons_of_mem _ hy)]
theorem optS_congr {ev ev' : Operand → R SV} {x : Option Operand} (h : ∀ y, x = some y → ev y = ev' y) : optS ev x = optS ev' x := by
  cases x with
  | none => rfl
  | some y => simp only [optS]; rw [h y rfl]

theorem pop_congr {C : Cfg} {ev ev' : Operand → R SV} {o : Oper} (h : ∀ x ∈ o.op.operands, ev x = ev' x) : pop C ev o = pop C ev' o := by
  obtain ⟨dst, op, type, pos, after, guard⟩ := o
  cases op <;> simp only [Op.operands] at h <;> simp only [pop]
  case move x => exact h x (by simp)
  case assign x => exact h x (by simp)
  case pick c a b => rw [h c (by simp), h a (by simp), h b (by simp)]
  case build t parts =>
    rw [evParts_congr (ev' := ev') fun x hx => h x.2 (by simp; exact ⟨x.1, by simpa using hx⟩)]
  case nilCheck x => rw [h x (by simp)]
  case binOp op t x y yt => rw [h x (by simp), h y (by simp)]
  case unOp op t x => rw [h x (by simp)]
  case convert s d x => rw [h x (by simp)]
  case makeFunc fn first captured =>
    rw [evL_congr (ev' := ev') (l := first.toList) fun x hx => h x (by simp [Array.mem_toList_iff.1 hx]), evL_congr (ev' := ev') (l := captured.toList) fun x hx => h x (by simp [Array.mem_toList_iff.1 hx])]
  case slice t x lo hi mx =>
    rw [h x (by simp), optS_congr (ev' := ev') (x := lo) fun y hy => h y (by simp [hy]), optS_congr (ev' := ev') (x := hi) fun y hy => h y (by simp [hy]), optS_congr (ev' := ev') (x := mx) fun y hy => h y (by simp [hy])]
  case fieldAddr s x f => rw [h x (by simp)]
  case field t x f => rw [h x (by simp)]
  case indexAddr t x ix => rw [h x (by simp), h ix (by simp)]
  case index t x ix => rw [h x (by simp), h ix (by simp)]
  case extract t i => rw [h t (by simp)]
  case call c =>
    obtain ⟨callee, args, argTypes⟩ := c
    obtain ⟨args⟩ := args
    simp only [Call.operands] at h
    split <;> simp_all

theorem effS_congr {call : CallF} {C : Cfg} {ev ev' : Operand → R SV} {s : St} {o : Oper} (h : ∀ x ∈ o.op.operands, ev x = ev' x) : effS call C ev s o = effS call C ev' s o := by
  obtain ⟨dst, op, type, pos, after, guard⟩ := o
  cases op <;> simp only [Op.operands] at h <;> simp only [effS]
  case store t x y => rw [h x (by simp), h y (by simp)]
  case box t x => rw [h x (by simp)]
  case buildSlice t len parts =>
    rw [evParts_congr (ev' := ev') fun x hx => h x.2 (by simp; exact ⟨x.1, by simpa using hx⟩)]
  case makeSlice t l c => rw [h l (by simp), h c (by simp)]
  case call c =>
    obtain ⟨callee, args, argTypes⟩ := c
    simp only [Call.operands] at h
    cases callee <;> simp only []
    case builtin b =>
      cases b <;> simp only []
      case append =>
        obtain ⟨args⟩ := args
        simp only [] at h ⊢
        split
        · rename_i x y _ _ _
          rw [h x (by simp), h y (by simp)]
        · rfl
    case value f =>
      rw [h f (by simp)]
      refine R.bind_congr rfl fun g => ?_
      cases g <;> simp only []
      rw [evL_congr (ev' := ev') (l := args.toList) fun x hx => h x (by simp [Array.mem_toList_iff.1 hx])]

theorem cls_load {o : Oper} (h : cls o.op = .load) : ∃ t x, o.op = .load t x := by
  cases hop : o.op <;> rw [hop] at h <;> simp only [cls] at h
  case load t x => exact ⟨t, x, rfl⟩
  case call c => cases hc : c.callee <;> simp only [hc] at h <;> first | (simp at h; done) | (rename_i b; cases b <;> simp at h)
  all_goals simp at h

section
variable {C : Cfg} {B : Base} {D : Den} {call : CallF} {nt : Nat} {ops : Array Oper} {T0 Tn : Tree SV} {s s0 sn : St} {L : List (Tree SV × St)} {E : List St}

/-- The effects that are listed. -/
def effsOf (ops : Array Oper) (listed : Array Bool) : Nat := (effIdx ops.toList (masks ops) 0).countP fun p => listed.getD p.1 false

/-- What a slot holds: the end's value where an operation that writes it is listed, else the start's. -/
def Cur (ops : Array Oper) (T0 Tn : Tree SV) (listed : Array Bool) (t : Nat) (v : SV) : Prop :=
  (∃ i o, ops[i]? = some o ∧ o.dst = some t ∧ lst listed i ∧ Tn.get t = some v) ∨ ((∀ i o, ops[i]? = some o → o.dst = some t → ¬ lst listed i) ∧ T0.get t = some v)

structure Inv (B : Base) (D : Den) (nt : Nat) (ops : Array Oper) (T0 Tn : Tree SV) (s s0 : St) (E : List St) (μ0 : Mu) (listed : Array Bool) (μ : Mu) (a : Act) (w : World) : Prop where
  size : a.tmps.size = nt
  defers : a.defers = []
  lsz : listed.size = ops.size
  closed : Closed ops listed
  tm : ∀ t v, Cur ops T0 Tn listed t v → ∃ V, v.den D μ = some V ∧ a.tmps[t]? = some V
  rep : ∃ sm, E[effsOf ops listed]? = some sm ∧ Rep B D μ sm w ∧ s0.n ≤ sm.n
  un : ∀ i o, ops[i]? = some o → isAlloc o = true → ¬ lst listed i → μ (s.n + cnt isAlloc ops.toList i) = none
  le : MuLe μ0 μ
  old : ∀ i, i < s.n → μ i = μ0 i

theorem lst_set {listed : Array Bool} {i j : Nat} (h : i < listed.size) : lst (listed.setIfInBounds i true) j ↔ j = i ∨ lst listed j := by
  unfold lst
  by_cases e : j = i
  · subst e; simp [h]
  · simp [e, Array.getElem?_setIfInBounds_ne (Ne.symm e)]

theorem dst_step {id : Nat} {o : Oper} {T T' : Tree SV} {s s' : St} (h : stepD call C nt ops id o T s = .ok (T', s')) (t : Nat) (ht : o.dst ≠ some t) : T'.get t = T.get t := by
  obtain ⟨b, hb, h1⟩ := R.bind_ok h
  split at h1
  · obtain ⟨r, hr, h2⟩ := R.bind_ok h1
    obtain ⟨T1, hp, h3⟩ := R.bind_ok h2
    simp only [R.ok.injEq, Prod.mk.injEq] at h3
    rw [← h3.1, putS_get hp, if_neg ht]
  · obtain ⟨T1, hp, h3⟩ := R.bind_ok h1
    simp only [R.ok.injEq, Prod.mk.injEq] at h3
    rw [← h3.1, putS_get hp, if_neg ht]

theorem Traced.fwd (tr : Traced call C nt ops ops.toList s.n T0 s0 L E) : ∀ (k i : Nat) (x y : Tree SV × St) (t : Nat), L[i]? = some x → L[i + k]? = some y →
    (∀ j o, i ≤ j → j < i + k → ops[j]? = some o → o.dst ≠ some t) → y.1.get t = x.1.get t
  | 0, i, x, y, t, hx, hy, _ => by simp only [Nat.add_zero] at hy; rw [hx] at hy; cases hy; rfl
  | k + 1, i, x, y, t, hx, hy, hn => by
    have hlt : i + k < ops.toList.length := by
      have := (List.getElem?_eq_some_iff.1 hy).1
      rw [tr.len] at this
      omega
    obtain ⟨p, q, h1, h2, h3⟩ := tr.step (i + k) ops.toList[i + k] (by simp)
    have e : i + k + 1 = i + (k + 1) := by omega
    rw [e, hy] at h2
    cases h2
    have := dst_step h3 t (hn (i + k) _ (by omega) (by omega) (by simp at hlt; simp [hlt]))
    rw [this]
    exact Traced.fwd tr k i x p t hx h1 fun j o h4 h5 => hn j o h4 (by omega)

theorem effs_set {listed : Array Bool} {i : Nat} {o : Oper} (hi : ops[i]? = some o) (hsz : listed.size = ops.size) (hun : ¬ lst listed i) (he : isEff o = false) :
    effsOf ops (listed.setIfInBounds i true) = effsOf ops listed := by
  unfold effsOf
  refine List.countP_congr fun p hp => ?_
  obtain ⟨j, u, h1, h2, h3, _⟩ := effIdx_mem hp
  have hlt : i < listed.size := by rw [hsz]; exact (Array.getElem?_eq_some_iff.1 hi).1
  have := lst_set (j := p.1) hlt
  unfold lst at this
  rw [this]
  constructor
  · rintro (e | e)
    · have hji : j = i := by omega
      subst hji
      have : ops[j]? = some u := by simpa using h2
      rw [hi] at this
      cases this
      rw [he] at h3
      simp at h3
    · exact e
  · exact .inr

/-- Of two operations the one that writes what the other looks at stands before it, or behind it, in every order. -/
theorem looks_order (hok : RegOk ops) {i j : Nat} {x y : Oper} (hx : ops[i]? = some x) (hy : ops[j]? = some y) {t : Nat} (hd : y.dst = some t) (hl : t ∈ x.looksAt ops) (hne : j ≠ i) :
    (j < i ∧ ((masks ops).getD i 0).testBit j = true) ∨ (i < j ∧ ((masks ops).getD j 0).testBit i = true) := by
  rcases Nat.lt_or_gt_of_ne hne with hlt | hlt
  · refine .inl ⟨hlt, ?_⟩
    rcases hok.looks j i y x hlt hy hx with h | ⟨h, _⟩
    · exact h
    · exact absurd hl ((Oper.apart_spec h).1 t hd)
  · refine .inr ⟨hlt, ?_⟩
    rcases hok.looks i j x y hlt hx hy with h | ⟨h, _⟩
    · exact h
    · exact absurd hl ((Oper.apart_spec h).2.2 t hd)

theorem ready_spec {listed : Array Bool} {i : Nat} (h : i ∈ Region.ready .any ops listed) (hsz : listed.size = ops.size) : ¬ lst listed i ∧ ∃ o, ops[i]? = some o ∧ ∀ e ∈ o.after, Region.binds .any e = true → lst listed e.on := by
  obtain ⟨h0, o, ho, hall⟩ := mem_ready.1 h
  refine ⟨fun hl => ?_, o, ho, hall⟩
  have hlt : i < listed.size := by rw [hsz]; exact (Array.getElem?_eq_some_iff.1 ho).1
  unfold lst at hl
  simp [hlt] at h0 hl
  rw [h0] at hl
  simp at hl

/-- What the canonical run knows of a slot that the operation looks at holds in the order at hand. -/
theorem cur_of (hok : RegOk ops) (tr : Traced call C nt ops ops.toList s.n T0 s0 L E) (hn : L[ops.size]? = some (Tn, sn)) {listed : Array Bool} (hcl : Closed ops listed) {i : Nat} {o : Oper}
    (hi : ops[i]? = some o) (hun : ¬ lst listed i) (hpre : ∀ e ∈ o.after, Region.binds .any e = true → lst listed e.on) {x : Tree SV × St} (hx : L[i]? = some x) {t : Nat} (hl : t ∈ o.looksAt ops) {v : SV} (hv : x.1.get t = some v) :
    Cur ops T0 Tn listed t v := by
  have hin : i < ops.size := (Array.getElem?_eq_some_iff.1 hi).1
  have hx0 : L[0]? = some (T0, s0) := tr.head
  by_cases hw : ∃ j u, ops[j]? = some u ∧ u.dst = some t ∧ j < i
  · obtain ⟨j, u, hj, hd, hji⟩ := hw
    have hb : ((masks ops).getD i 0).testBit j = true := by
      rcases looks_order hok hi hj hd hl (by omega) with h | h
      · exact h.2
      · omega
    have hlj := mask_listed hcl i o hi hpre j hb
    refine .inl ⟨j, u, hj, hd, hlj, ?_⟩
    have e : i + (ops.size - i) = ops.size := by omega
    have := Traced.fwd tr (ops.size - i) i x (Tn, sn) t hx (by rw [e]; exact hn) fun k y hk _ hy => fun hc => hok.dst k j y u t (by omega) hy hj hc hd
    simp only at this
    rw [this]
    exact hv
  · refine .inr ⟨fun j u hj hd hlj => ?_, ?_⟩
    · rcases Nat.lt_trichotomy j i with hlt | heq | hgt
      · exact hw ⟨j, u, hj, hd, hlt⟩
      · subst heq; exact hun hlj
      · have hb : ((masks ops).getD j 0).testBit i = true := by
          rcases looks_order hok hi hj hd hl (by omega) with h | h
          · omega
          · exact h.2
        exact hun (mask_listed hcl j u hj (hcl j u hj hlj) i hb)
    · have := Traced.fwd tr i 0 (T0, s0) x t hx0 (by simpa using hx) fun k y _ hk hy => fun hc => hw ⟨k, y, hy, hc, by omega⟩
      simp only at this
      rw [← this]
      exact hv

theorem effs_at (hok : RegOk ops) {listed : Array Bool} (hcl : Closed ops listed) {i : Nat} {o : Oper} (hi : ops[i]? = some o) (hun : ¬ lst listed i)
    (hpre : ∀ e ∈ o.after, Region.binds .any e = true → lst listed e.on) (he : isEff o = true) : effsOf ops listed = cnt isEff ops.toList i := by
  have hc := effIdx_count ops.toList (masks ops) 0 i (by rw [masks_length]; simp)
  rw [Nat.zero_add] at hc
  rw [← hc]
  unfold effsOf
  refine List.countP_congr fun p hp => ?_
  obtain ⟨j, u, h1, h2, h3, _⟩ := effIdx_mem hp
  have hj : ops[j]? = some u := by simpa using h2
  have e : p.1 = j := by omega
  rw [e, blt_iff]
  have order : ∀ a b x y, a < b → ops[a]? = some x → ops[b]? = some y → isEff x = true → isEff y = true → ((masks ops).getD b 0).testBit a = true := fun a b x y hab hx hy e1 e2 => by
    rcases hok.looks a b x y hab hx hy with h | ⟨_, h⟩
    · exact h
    · exact absurd ⟨e1, e2⟩ h
  constructor
  · intro hl
    rcases Nat.lt_trichotomy j i with hlt | heq | hgt
    · exact hlt
    · subst heq; exact absurd hl hun
    · exact absurd (mask_listed hcl j u hj (hcl j u hj hl) i (order i j o u hgt hi hj he h3)) hun
  · intro hlt
    exact mask_listed hcl i o hi hpre j (order j i u o hlt hj hi h3 he)

theorem effs_between {listed : Array Bool} (hcl : Closed ops listed) {i : Nat} {o : Oper} (hi : ops[i]? = some o) (hun : ¬ lst listed i)
    (hpre : ∀ e ∈ o.after, Region.binds .any e = true → lst listed e.on) :
    (effIdx ops.toList (masks ops) 0).countP (fun p => ((masks ops).getD i 0).testBit p.1) ≤ effsOf ops listed ∧
    effsOf ops listed ≤ (effIdx ops.toList (masks ops) 0).countP (fun p => !p.2.testBit i) := by
  refine ⟨List.countP_mono_left fun p hp h => ?_, List.countP_mono_left fun p hp h => ?_⟩
  · exact mask_listed hcl i o hi hpre p.1 h
  · obtain ⟨j, u, h1, h2, _, h4⟩ := effIdx_mem hp
    have hj : ops[j]? = some u := by simpa using h2
    have e : p.1 = j := by omega
    rw [e] at h
    cases hb : p.2.testBit i
    · rfl
    · exact absurd (mask_listed hcl j u hj (hcl j u hj h) i (by rw [List.getD, h4]; exact hb)) hun

theorem effs_set_eff (hok : RegOk ops) {listed : Array Bool} (hcl : Closed ops listed) {i : Nat} {o : Oper} (hi : ops[i]? = some o) (hsz : listed.size = ops.size) (hun : ¬ lst listed i)
    (hpre : ∀ e ∈ o.after, Region.binds .any e = true → lst listed e.on) (he : isEff o = true) : effsOf ops (listed.setIfInBounds i true) = cnt isEff ops.toList (i + 1) := by
  have hc := effIdx_count ops.toList (masks ops) 0 (i + 1) (by rw [masks_length]; simp)
  rw [Nat.zero_add] at hc
  rw [← hc]
  unfold effsOf
  refine List.countP_congr fun p hp => ?_
  obtain ⟨j, u, h1, h2, h3, _⟩ := effIdx_mem hp
  have hj : ops[j]? = some u := by simpa using h2
  have e : p.1 = j := by omega
  have hlt : i < listed.size := by rw [hsz]; exact (Array.getElem?_eq_some_iff.1 hi).1
  have hs := lst_set (j := j) hlt
  unfold lst at hs
  rw [e, hs, blt_iff]
  have order : ∀ a b x y, a < b → ops[a]? = some x → ops[b]? = some y → isEff x = true → isEff y = true → ((masks ops).getD b 0).testBit a = true := fun a b x y hab hx hy e1 e2 => by
    rcases hok.looks a b x y hab hx hy with h | ⟨_, h⟩
    · exact h
    · exact absurd ⟨e1, e2⟩ h
  constructor
  · rintro (h | hl)
    · omega
    · rcases Nat.lt_trichotomy j i with h | h | h
      · omega
      · omega
      · exact absurd (mask_listed hcl j u hj (hcl j u hj hl) i (order i j o u h hi hj he h3)) hun
  · intro h
    by_cases hji : j = i
    · exact .inl hji
    · exact .inr (mask_listed hcl i o hi hpre j (order j i u o (by omega) hj hi h3 he))

theorem cnt_lt {p : Oper → Bool} {l : List Oper} {i j : Nat} {o : Oper} (h : i < j) (hi : l[i]? = some o) (hp : p o = true) : cnt p l i < cnt p l j := by
  have h1 : cnt p l (i + 1) = cnt p l i + 1 := by
    unfold cnt
    rw [List.take_add_one, hi, List.countP_append]
    simp [hp]
  have h2 : cnt p l (i + 1) ≤ cnt p l j := by
    unfold cnt
    exact List.Sublist.countP_le (List.IsPrefix.sublist (List.take_prefix_take_left (by omega)))
  omega

/-- The next state of the proof. -/
theorem Inv.next {μ0 : Mu} (hok : RegOk ops) (tr : Traced call C nt ops ops.toList s.n T0 s0 L E) (hn : L[ops.size]? = some (Tn, sn)) {listed : Array Bool} {μ ν : Mu} {a : Act} {w w' : World}
    (inv : Inv B D nt ops T0 Tn s s0 E μ0 listed μ a w) {i : Nat} {o : Oper} (hi : ops[i]? = some o) (hun : ¬ lst listed i) (hpre : ∀ e ∈ o.after, Region.binds .any e = true → lst listed e.on)
    {y : Tree SV × St} (hy : L[i + 1]? = some y) {x : Tree SV × St} {v : SV} {V : Value} (hput : putS nt x.1 o.dst v = .ok y.1) (hV : v.den D ν = some V) (hle : MuLe μ ν)
    (hrep : ∃ sm, E[effsOf ops (listed.setIfInBounds i true)]? = some sm ∧ Rep B D ν sm w' ∧ s0.n ≤ sm.n) (hold : ∀ k, k < s0.n → (isAlloc o = true → k ≠ s.n + cnt isAlloc ops.toList i) → ν k = μ k) (hs : s.n ≤ s0.n)
    (hs0 : s0.n = s.n + ops.toList.countP isAlloc) :
    Inv B D nt ops T0 Tn s s0 E μ0 (listed.setIfInBounds i true) ν (a.put o.dst V) w' := by
  have hin : i < ops.size := (Array.getElem?_eq_some_iff.1 hi).1
  have hlt : i < listed.size := by rw [inv.lsz]; exact hin
  refine ⟨?_, ?_, by simp [inv.lsz], fun j u hj hl e he hb => ?_, fun t u hu => ?_, hrep, fun j u hj hu hl => ?_, inv.le.trans hle, fun k hk => ?_⟩
  · cases o.dst <;> simp [Act.put, inv.size]
  · cases o.dst <;> simp [Act.put, inv.defers]
  · rw [lst_set hlt] at hl ⊢
    rcases hl with rfl | hl
    · rw [hi] at hj; cases hj; exact .inr (hpre e he hb)
    · exact .inr (inv.closed j u hj hl e he hb)
  · rw [put_get a o.dst V t (fun d hd => by rw [inv.size]; rw [hd] at hput; exact putS_lt hput)]
    by_cases hd : o.dst = some t
    · rw [if_pos hd]
      have hTn : Tn.get t = some v := by
        have e : i + 1 + (ops.size - (i + 1)) = ops.size := by omega
        have := Traced.fwd tr (ops.size - (i + 1)) (i + 1) y (Tn, sn) t hy (by rw [e]; exact hn) fun k z hk _ hz => fun hc => hok.dst k i z o t (by omega) hz hi hc hd
        simp only at this
        rw [this, putS_get hput, if_pos hd]
      have huv : u = v := by
        rcases hu with ⟨j, z, hj, hz, hlj, hg⟩ | ⟨hno, _⟩
        · rw [hTn] at hg; cases hg; rfl
        · exact absurd ((lst_set hlt).2 (.inl rfl)) (hno i o hi hd)
      subst huv
      exact ⟨V, hV, rfl⟩
    · rw [if_neg hd]
      have hc : Cur ops T0 Tn listed t u := by
        rcases hu with ⟨j, z, hj, hz, hlj, hg⟩ | ⟨hno, hg⟩
        · rcases (lst_set hlt).1 hlj with rfl | hlj
          · rw [hi] at hj; cases hj; exact absurd hz hd
          · exact .inl ⟨j, z, hj, hz, hlj, hg⟩
        · exact .inr ⟨fun j z hj hz hlj => hno j z hj hz ((lst_set hlt).2 (.inr hlj)), hg⟩
      obtain ⟨U, h1, h2⟩ := inv.tm t u hc
      exact ⟨U, SV.den_mono hle u h1, h2⟩
  · rw [lst_set hlt] at hl
    have hl1 : j ≠ i := fun e => hl (.inl e)
    have hl2 : ¬ lst listed j := fun e => hl (.inr e)
    have hcount : cnt isAlloc ops.toList j < ops.toList.countP isAlloc := by
      have hjl : j < ops.toList.length := by simpa using (Array.getElem?_eq_some_iff.1 hj).1
      have := cnt_lt (p := isAlloc) (l := ops.toList) (j := ops.toList.length) hjl (by simpa using hj) hu
      unfold cnt at this ⊢
      rw [List.take_length] at this
      exact this
    rw [hold _ (by omega) fun ha heq => ?_]
    · exact inv.un j u hj hu hl2
    · rcases Nat.lt_or_gt_of_ne hl1 with h | h
      · have := cnt_lt (p := isAlloc) (l := ops.toList) h (by simpa using hj) hu; omega
      · have := cnt_lt (p := isAlloc) (l := ops.toList) h (by simpa using hi) ha; omega
  · rw [hold k (by omega) fun _ => by omega, inv.old k hk]
end
end Go.Sym

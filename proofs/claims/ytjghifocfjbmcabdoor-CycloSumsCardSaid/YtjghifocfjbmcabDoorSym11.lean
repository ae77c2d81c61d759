/- SymGo, part 11: drawn regions, calls and whole functions. -/
import Derived.Test.YtjghifocfjbmcabDoorSym10
import Derived.Scope
namespace Go.Sym

/-- How many of the first n are not listed. -/
def unl (listed : Array Bool) : Nat → Nat
  | 0 => 0
  | n + 1 => unl listed n + if listed.getD n false = true then 0 else 1
theorem unl_set {listed : Array Bool} {i : Nat} (hi : i < listed.size) (hun : ¬ lst listed i) : ∀ n, unl (listed.setIfInBounds i true) n + (if i < n then 1 else 0) = unl listed n
  | 0 => by simp [unl]
  | n + 1 => by
    have ih := unl_set hi hun n
    simp only [unl]
    have h := lst_set (j := n) hi
    unfold lst at h hun
    by_cases e : n = i
    · subst e
      rw [if_pos (h.2 (.inl rfl)), if_neg hun, if_pos (Nat.lt_succ_self _)]
      rw [if_neg (Nat.lt_irrefl _)] at ih
      omega
    · by_cases hl : listed.getD n false = true
      · rw [if_pos (h.2 (.inr hl)), if_pos hl]
        by_cases hlt : i < n
        · rw [if_pos hlt] at ih; rw [if_pos (by omega)]; omega
        · rw [if_neg hlt] at ih; rw [if_neg (by omega)]; omega
      · have : ¬ (listed.setIfInBounds i true).getD n false = true := fun hh => by rcases h.1 hh with h1 | h1; exact e h1; exact hl h1
        rw [if_neg this, if_neg hl]
        by_cases hlt : i < n
        · rw [if_pos hlt] at ih; rw [if_pos (by omega)]; omega
        · rw [if_neg hlt] at ih; rw [if_neg (by omega)]; omega
theorem unl_zero {listed : Array Bool} : ∀ {n : Nat}, unl listed n = 0 → ∀ i, i < n → lst listed i
  | 0, _, i, hi => by omega
  | n + 1, h, i, hi => by
    simp only [unl] at h
    by_cases e : i = n
    · subst e
      unfold lst
      by_cases hl : listed.getD i false = true
      · exact hl
      · rw [if_neg hl] at h; omega
    · exact unl_zero (n := n) (by omega) i (by omega)
theorem all_listed {ops : Array Oper} {listed : Array Bool} (hok : RegOk ops) (hsz : listed.size = ops.size) (hr : Region.ready .any ops listed = []) : ∀ i, i < ops.size → lst listed i := by
  intro i
  induction i using Nat.strongRecOn with
  | _ i ih =>
    intro hi
    by_cases hl : lst listed i
    · exact hl
    · have : i ∈ Region.ready .any ops listed := by
        refine mem_ready.2 ⟨?_, ops[i], by simp [hi], fun e he hb => ?_⟩
        · unfold lst at hl
          have hlt : i < listed.size := by omega
          simp [hlt] at hl ⊢
          exact hl
        · have := hok.back i ops[i] (by simp [hi]) e he hb
          exact ih e.on this (by omega)
      rw [hr] at this
      simp at this

section
variable {C : Cfg} {B : Base} {D : Den} {call : CallF} {nt : Nat} {ops : Array Oper} {T0 Tn : Tree SV} {s s0 sn : St} {L : List (Tree SV × St)} {E : List St}

/-- What the end of the region knows. -/
theorem Inv.fin {μ0 μ : Mu} {listed : Array Bool} {a : Act} {w : World} (tr : Traced call C nt ops ops.toList s.n T0 s0 L E) (hn : L[ops.size]? = some (Tn, sn))
    (inv : Inv B D nt ops T0 Tn s s0 E μ0 listed μ a w) (hall : ∀ i, i < ops.size → lst listed i) (hs : s.n ≤ s0.n) : Ext s sn μ0 μ ∧ ARep D μ nt Tn a ∧ Rep B D μ sn w := by
  obtain ⟨sm, hm, hr, hns⟩ := inv.rep
  have hE := tr.eff ops.size (Tn, sn) hn
  have heq : effsOf ops listed = cnt isEff ops.toList ops.size := by
    have hc := effIdx_count ops.toList (masks ops) 0 ops.size (by rw [masks_length]; simp)
    rw [Nat.zero_add] at hc
    rw [← hc]
    unfold effsOf
    refine List.countP_congr fun p hp => ?_
    obtain ⟨j, u, h1, h2, _⟩ := effIdx_mem hp
    have hj : ops[j]? = some u := by simpa using h2
    have hlt := (Array.getElem?_eq_some_iff.1 hj).1
    have e : p.1 = j := by omega
    rw [e, blt_iff]
    exact ⟨fun _ => hlt, fun _ => hall j hlt⟩
  rw [heq, hE] at hm
  cases hm
  simp only at hns hr
  refine ⟨⟨by omega, inv.le, inv.old⟩, ⟨inv.size, inv.defers, fun t v hv => inv.tm t v ?_⟩, hr⟩
  by_cases hw : ∃ (i : Nat) (o : Oper), ops[i]? = some o ∧ o.dst = some t
  · obtain ⟨i, o, hi, hd⟩ := hw
    exact .inl ⟨i, o, hi, hd, hall i (Array.getElem?_eq_some_iff.1 hi).1, hv⟩
  · refine .inr ⟨fun i o hi hd => absurd ⟨i, o, hi, hd⟩ hw, ?_⟩
    have := Traced.fwd tr ops.size 0 (T0, s0) (Tn, sn) t tr.head (by simpa using hn) fun j o _ _ hj hc => hw ⟨j, o, hj, hc⟩
    simp only at this
    rw [← this]
    exact hv

theorem drawn_any (hC : Ok C B D) (hcall : CallOk C B D call) {Q : Exit → Act → World → Prop} {μ0 : Mu} (hok : RegOk ops) (tr : Traced call C nt ops ops.toList s.n T0 s0 L E) (hn : L[ops.size]? = some (Tn, sn))
    (hst : stableAll C E (effIdx ops.toList (masks ops) 0) ops.toList (masks ops) 0 0 s.n L = true) (hs : s.n ≤ s0.n) (hs0 : s0.n = s.n + ops.toList.countP isAlloc)
    (hK : ∀ ν a' w', Ext s sn μ0 ν → ARep D ν nt Tn a' → Rep B D ν sn w' → Q .normal a' w') :
    ∀ (fuel : Nat) (listed : Array Bool) (μ : Mu) (a : Act) (w : World), unl listed ops.size ≤ fuel → Inv B D nt ops T0 Tn s s0 E μ0 listed μ a w → wpAny C.P .any ops Q fuel listed a w := by
  intro fuel
  have done : ∀ (listed : Array Bool) (μ : Mu) (a : Act) (w : World), Inv B D nt ops T0 Tn s s0 E μ0 listed μ a w → Region.ready .any ops listed = [] → Q .normal a w := fun listed μ a w inv hr => by
    obtain ⟨h1, h2, h3⟩ := inv.fin tr hn (all_listed hok inv.lsz hr) hs
    exact hK μ a w h1 h2 h3
  induction fuel with
  | zero =>
    intro listed μ a w hu inv
    have hr : Region.ready .any ops listed = [] := by
      cases hrd : Region.ready .any ops listed with
      | nil => rfl
      | cons i l =>
        have hi : i ∈ Region.ready .any ops listed := by rw [hrd]; exact List.mem_cons_self
        obtain ⟨h1, o, h2, _⟩ := ready_spec hi inv.lsz
        exact absurd (unl_zero (by omega) i (Array.getElem?_eq_some_iff.1 h2).1) h1
    exact ⟨hr, done listed μ a w inv hr⟩
  | succ fuel ih =>
    intro listed μ a w hu inv
    refine ⟨done listed μ a w inv, fun i hrd => ?_⟩
    obtain ⟨hun, o, hi, hpre⟩ := ready_spec hrd inv.lsz
    have hin : i < ops.size := (Array.getElem?_eq_some_iff.1 hi).1
    have hlt : i < listed.size := by rw [inv.lsz]; exact hin
    have hil : ops.toList[i]? = some o := by simpa using hi
    obtain ⟨x, y, hx, hy, hstep⟩ := tr.step i o hil
    have hE := tr.eff i x hx
    have hunl : unl (listed.setIfInBounds i true) ops.size ≤ fuel := by
      have := unl_set hlt hun ops.size
      rw [if_pos hin] at this
      omega
    obtain ⟨sm, hsm, hrep, hsn⟩ := inv.rep
    have hmask : (masks ops)[i]? = some ((masks ops).getD i 0) := by
      have : i < (masks ops).length := by rw [masks_length]; exact hin
      simp [List.getD, this]
    have hstab := stableAll_spec ops.toList (masks ops) 0 0 s.n L hst i o _ x hil hmask hx
    rw [Nat.zero_add, Nat.zero_add] at hstab
    have hbt := effs_between inv.closed hi hun hpre
    have look : ∀ t v, t ∈ o.looksAt ops → x.1.get t = some v → ∃ V, v.den D μ = some V ∧ a.tmps[t]? = some V := fun t v ht hv =>
      inv.tm t v (cur_of hok tr hn inv.closed hi hun hpre hx ht hv)
    obtain ⟨b, hb, h1⟩ := R.bind_ok hstep
    have hw := wantS_ok (D := D) (μ := μ) (a := a) hb fun j want t v hg hd hv => look t v (by simp [Oper.looksAt, hg, hd]) hv
    unfold wpOp
    simp only [hi, hw]
    split at h1
    · obtain ⟨r, hr, h2⟩ := R.bind_ok h1
      obtain ⟨T1, hp, h3⟩ := R.bind_ok h2
      simp only [R.ok.injEq] at h3
      subst h3
      simp only [if_true]
      left
      cases hal : isAlloc o
      · rw [hal] at hr
        simp only [] at hr
        -- the operation, with the operands that it looks at alone
        have hev : ∃ ev' : Operand → R SV, EvOk D μ ev' a ∧ ∀ z ∈ o.op.operands, evO C x.1 z = ev' z := by
          classical
          refine ⟨fun z => if z ∈ o.op.operands then evO C x.1 z else .fail "", fun z v hz => ?_, fun z hz => (if_pos hz).symm⟩
          simp only [] at hz
          by_cases hm : z ∈ o.op.operands
          · rw [if_pos hm] at hz
            cases z with
            | tmp t =>
              simp only [evO] at hz
              split at hz
              · rename_i u hu
                simp only [R.ok.injEq] at hz
                subst hz
                have htl : t ∈ o.looksAt ops := by
                  unfold Oper.looksAt
                  refine List.mem_append_left _ (List.mem_filterMap.2 ⟨.tmp t, by simpa using hm, rfl⟩)
                obtain ⟨V, h4, h5⟩ := look t u htl hu
                rw [h4]
                simp [Act.eval, h5]
              · simp at hz
            | const v' => exact evO_of (T := .leaf) (μ := μ) (a := a) hC (fun t v hv => by simp [Tree.get] at hv) hz
            | global g => exact evO_of (T := .leaf) (μ := μ) (a := a) hC (fun t v hv => by simp [Tree.get] at hv) hz
            | func f => exact evO_of (T := .leaf) (μ := μ) (a := a) hC (fun t v hv => by simp [Tree.get] at hv) hz
          · rw [if_neg hm] at hz; simp at hz
        obtain ⟨ev', hev1, hev2⟩ := hev
        unfold valS at hr
        split at hr
        · rename_i hc
          have he : isEff o = false := by unfold isEff; rw [hc]
          rw [pop_congr hev2] at hr
          obtain ⟨v, hv, h5⟩ := R.bind_ok hr
          simp only [R.ok.injEq] at h5
          subst h5
          obtain ⟨V, hV, g⟩ := pop_ok hC.sat hev1 hv
          unfold Oper.wp
          rw [g w]
          refine ih _ μ _ w hunl (inv.next hok tr hn hi hun hpre hy hp hV (MuLe.refl _) ?_ (fun _ _ _ => rfl) hs hs0)
          rw [effs_set hi inv.lsz hun he]
          exact ⟨sm, hsm, hrep, hsn⟩
        · rename_i hc
          have he : isEff o = false := by unfold isEff; rw [hc]
          obtain ⟨t, z, hop⟩ := cls_load hc
          rw [hop] at hr
          simp only [] at hr
          obtain ⟨u, hu, h5⟩ := R.bind_ok hr
          obtain ⟨v, hv, h6⟩ := R.bind_ok h5
          simp only [R.ok.injEq] at h6
          subst h6
          have hload : loadS C sm t u = .ok v := by
            simp only [stableAt, hop, Bool.or_eq_true, Bool.and_eq_true] at hstab
            rcases hstab with ⟨e1, e2⟩ | hstab
            · have e1 := beq_iff.1 e1
              have e2 := beq_iff.1 e2
              have e3 : effsOf ops listed = cnt isEff ops.toList i := by omega
              rw [e3, hE] at hsm
              cases hsm
              exact hv
            · rw [hu] at hstab
              simp only [hv] at hstab
              have := (List.all_eq_true.1 hstab) (effsOf ops listed) (by rw [List.mem_range'_1]; omega)
              rw [hsm] at this
              simp only [] at this
              split at this
              · rename_i u' hu'
                rw [hu', SV.same_eq this]
              · simp at this
          have hz : z ∈ o.op.operands := by rw [hop]; simp [Op.operands]
          have hu' : ev' z = .ok u := by rw [← hev2 z hz]; exact hu
          obtain ⟨V, hV, g⟩ := loadS_ok hC hrep (hev1 z u hu') hload
          unfold Oper.wp
          have : (execOp a.eval o).run C.P w = .ok (.value V) w := by
            simp only [execOp, hop, Sem.run_bind, g, Result.andThen_ok, Sem.run_pure]
          rw [this]
          refine ih _ μ _ w hunl (inv.next hok tr hn hi hun hpre hy hp hV (MuLe.refl _) ?_ (fun _ _ _ => rfl) hs hs0)
          rw [effs_set hi inv.lsz hun he]
          exact ⟨sm, hsm, hrep, hsn⟩
        · rename_i hc
          unfold isAlloc at hal
          rw [hc] at hal
          simp at hal
        · rename_i hc
          have he : isEff o = true := by unfold isEff; rw [hc]
          have e3 := effs_at hok inv.closed hi hun hpre he
          rw [e3, hE] at hsm
          cases hsm
          rw [effS_congr hev2] at hr
          refine effS_ok hC hcall hev1 hrep (v := r.1) (s' := r.2) hr fun ν V w' h5 h6 h7 => ?_
          refine ih _ ν _ w' hunl (inv.next hok tr hn hi hun hpre hy hp h6 h5.le ?_ (fun k hk _ => h5.old k (by omega)) hs hs0)
          rw [effs_set_eff hok inv.closed hi inv.lsz hun hpre he]
          have := tr.eff (i + 1) (T1, r.2) hy
          have hn5 := h5.n
          exact ⟨r.2, this, h7, by omega⟩
      · rw [hal] at hr
        simp only [R.ok.injEq] at hr
        subst hr
        obtain ⟨t, hop⟩ := isAlloc_op hal
        have he : isEff o = false := by unfold isEff; rw [hop]; rfl
        simp only [stableAt, hop] at hstab
        split at hstab
        · rename_i z hz
          have hm := (List.all_eq_true.1 hstab) (effsOf ops listed) (by rw [List.mem_range]; omega)
          rw [hsm] at hm
          simp only [] at hm
          split at hm
          · rename_i k hk
            simp only [Bool.and_eq_true] at hm
            have hk0 := beq_iff.1 hm.1
            have hkz := SV.sameL_eq hm.2
            obtain ⟨Z, hZ, g⟩ := zeroS_ok (D := D) (μ := μ) hz
            have hidlt : cnt isAlloc ops.toList i < ops.toList.countP isAlloc := by
              have hjl : i < ops.toList.length := by simpa using hin
              have := cnt_lt (p := isAlloc) (l := ops.toList) (j := ops.toList.length) hjl hil hal
              unfold cnt at this ⊢
              rw [List.take_length] at this
              exact this
            obtain ⟨h5, h6⟩ := hrep.alloc (id := s.n + cnt isAlloc ops.toList i) (k := k) (xs := Z.cells.toList) (rest := []) (ty := t) 0 (by omega) (inv.un i o hi hal hun) hk (by rw [hkz]; exact hZ) (fun _ _ _ h => by rw [hk0] at h; exact liveK_ne h)
            unfold Oper.wp
            have : (execOp a.eval o).run C.P w = .ok (.value (.pointer (some ⟨w.heap.size, 0, none⟩))) { w with heap := w.heap.push (.cells (Z.cells.toList ++ []).toArray t) } := by
              simp [execOp, hop, Instr.alloc, g w, newVar, newRow]
            rw [this]
            refine ih _ _ _ _ hunl (inv.next hok tr hn hi hun hpre hy hp (V := .pointer (some ⟨w.heap.size, 0, none⟩)) ?_ h5 ?_ (fun k' _ hne => if_neg (hne hal)) hs hs0)
            · simp [SV.den]
            · rw [effs_set hi inv.lsz hun he]
              exact ⟨sm, hsm, h6, hsn⟩
          · simp at hm
        · simp at hstab
    · obtain ⟨T1, hp, h3⟩ := R.bind_ok h1
      simp only [R.ok.injEq] at h3
      subst h3
      simp only [Bool.false_eq_true, if_false]
      refine ih _ μ _ w hunl (inv.next hok tr hn hi hun hpre hy hp (v := undefS) rfl (MuLe.refl _) ?_ (fun _ _ _ => rfl) hs hs0)
      cases he : isEff o
      · rw [effs_set hi inv.lsz hun he]
        exact ⟨sm, hsm, hrep, hsn⟩
      · rw [effs_set_eff hok inv.closed hi inv.lsz hun hpre he]
        have e3 := effs_at hok inv.closed hi hun hpre he
        rw [e3, hE] at hsm
        cases hsm
        have := tr.eff (i + 1) (T1, x.2) hy
        exact ⟨x.2, this, hrep, hsn⟩

theorem drawn_ok (hC : Ok C B D) (hm : C.P.follows .mixedOrders = true) (hcall : CallOk C B D call) {Q : Exit → Act → World → Prop} {μ : Mu} {T T' : Tree SV} {s s' : St} {a : Act} {w : World} {id : Nat}
    (ha : ARep D μ nt T a) (hr : Rep B D μ s w) (h : drawnS call C nt ops T s = .ok (T', s'))
    (hK : ∀ ν a' w', Ext s s' μ ν → ARep D ν nt T' a' → Rep B D ν s' w' → Q .normal a' w') : (Code.region id ops true).wp C.P Q a w := by
  obtain ⟨hok, h1⟩ := R.then_ok h
  obtain ⟨s0, hs0, h2⟩ := R.bind_ok h1
  obtain ⟨x, hx, h3⟩ := R.bind_ok h2
  obtain ⟨hst, h4⟩ := R.then_ok h3
  have hok := regOk_spec hok
  have tr := runD_ok ops.toList s.n T s0 x.1 x.2 hx
  obtain ⟨hr0, hn0⟩ := allocAll_ok ops.toList s s0 hs0 hr
  split at h4
  · rename_i y hy
    simp only [R.ok.injEq] at h4
    subst h4
    refine wp_region_any hm ?_
    refine drawn_any hC hcall (μ0 := μ) hok tr hy hst (by omega) hn0 hK ops.size _ μ a _ ?_ ?_
    · have : ∀ n, unl (Array.replicate ops.size false) n ≤ n := fun n => by
        induction n with
        | zero => simp [unl]
        | succ n ih => simp only [unl]; split <;> omega
      exact this _
    · have hno : ∀ i, ¬ lst (Array.replicate ops.size false) i := fun i hl => by
        unfold lst at hl
        simp [Array.getElem?_replicate] at hl
        split at hl <;> simp at hl
      refine ⟨ha.size, ha.defers, by simp, fun i o _ hl => absurd hl (hno i), fun t v hv => ?_, ?_, fun i o hi _ _ => hr.fresh (by omega), MuLe.refl _, fun _ _ => rfl⟩
      · rcases hv with ⟨i, o, _, _, hl, _⟩ | ⟨_, hv⟩
        · exact absurd hl (hno i)
        · exact ha.tmps t v hv
      · have e : effsOf ops (Array.replicate ops.size false) = 0 := by
          unfold effsOf
          rw [List.countP_eq_zero]
          exact fun p _ hl => hno p.1 hl
        have := tr.eff 0 (T, s0) tr.head
        rw [e]
        exact ⟨s0, this, hr0.drew _, Nat.le_refl _⟩
  · simp at h4
end

/-- What the run of a function and of its code is; the number bounds how deep. -/
structure Fns where
  call : CallF
  exec : Nat → Code → Tree SV → St → R (SExit × (Tree SV × St))

def resS (C : Cfg) (T : Tree SV) (s : St) : List ResultVar → R (List SV)
  | [] => .ok []
  | r :: l => (match r with
    | .tmp t => match T.get t with
      | some v => .ok v
      | none => .fail "a result that is not known"
    | .cell a t => match T.get a with
      | some v => loadS C s t v
      | none => .fail "a result's place that is not known" : R SV).bind fun v => (resS C T s l).bind fun vs => .ok (v :: vs)
def oneS : List SV → SV
  | [v] => v
  | l => .tuple l
def argsT : Nat → List SV → Tree SV → Tree SV
  | _, [], T => T
  | k, v :: l, T => argsT (k + 1) l (T.set k v)

def callStep (C : Cfg) (exec : Nat → Code → Tree SV → St → R (SExit × (Tree SV × St))) : CallF := fun g args s => match C.P.funcs[g]? with
  | some fn => match fn.body with
    | some c => R.then (Nat.ble args.length fn.ntmps) "call: slots" ((exec fn.ntmps c (argsT 0 args .leaf) s).bind fun r => match r.1 with
      | .exit _ => .fail "call: exit"
      | _ => (resS C r.2.1 r.2.2 fn.results.toList).bind fun vs => .ok (oneS vs, r.2.2))
    | none => .fail "call: no body"
  | none => .fail "call: no function"

def execStep (C : Cfg) (F : Fns) (nt : Nat) (c : Code) (T : Tree SV) (s : St) : R (SExit × (Tree SV × St)) := match c with
  | .skip => .ok (.normal, (T, s))
  | .label _ => .ok (.normal, (T, s))
  | .scope c => F.exec nt c T s
  | .seq a b => (F.exec nt a T s).bind fun r => match r.1 with
    | .normal => F.exec nt b r.2.1 r.2.2
    | _ => .ok r
  | .cond c x y => (evO C T c).bind fun v => match v with
    | .bool true => F.exec nt x T s
    | .bool false => F.exec nt y T s
    | _ => .fail "cond"
  | .block id c => (F.exec nt c T s).bind fun r => match r.1 with
    | .exit j => match Nat.beq j id with
      | true => .ok (.normal, r.2)
      | false => .ok r
    | _ => .ok r
  | .loop c => (F.exec nt c T s).bind fun r => match r.1 with
    | .normal => F.exec nt (.loop c) r.2.1 r.2.2
    | _ => .ok r
  | .exit id => .ok (.exit id, (T, s))
  | .ret => .ok (.ret, (T, s))
  | .region _ ops draw => match draw with
    | true => (drawnS F.call C nt ops T s).bind fun r => .ok (.normal, r)
    | false => (opsS F.call C nt ops ops.toList T s).bind fun r => .ok (.normal, r)
  | _ => .fail "code"

/-! ### Summaries at a call -/
def getL : List (Nat × SV) → Nat → SV
  | [], _ => .raw .nilFunc
  | x :: l, n => Bool.casesOn (motive := fun _ => SV) (Nat.beq x.1 n) (getL l n) x.2
mutual
/-- The slices that stand where the pattern has a slice. -/
def SV.slc : SV → SV → List (Nat × SV) → List (Nat × SV)
  | .aslice i _ _, a, r => (i, a) :: r
  | .agg l, a, r => match a with
    | .agg m => SV.slcL l m r
    | _ => r
  | _, _, r => r
def SV.slcL : List SV → List SV → List (Nat × SV) → List (Nat × SV)
  | [], _, r => r
  | v :: l, m, r => match m with
    | a :: m => SV.slc v a (SV.slcL l m r)
    | [] => r
end
/-- The slice's length, the address of its first cell, where its capacity is known to be that much at least. -/
def sliceOf (s : St) : SV → Option (Nat × SV)
  | .slice id off n cap u => match u with
    | false => match Nat.ble n cap with
      | true => some (n, .ptr id off)
      | false => none
    | true => match Nat.beq cap 0 && liveOk s id n with
      | true => some (n, .ptr id off)
      | false => none
  | .oslice id n => some (n, .ptr id 0)
  | .xslice i off n cap => match Nat.ble n cap with
    | true => some (n, .xptr i off)
    | false => none
  | .aslice i n full => match Nat.ble n full with
    | true => some (n, .xptr i 0)
    | false => none
  | _ => none
mutual
/-- Are the arguments as the pattern has them, with these numbers? -/
def mV (C : Cfg) (s : St) (σ : List Poly) (L : List (Nat × SV)) : SV → SV → Bool
  | .aslice i n full, a => Nat.beq n full && (SV.same (getL L i) a && (Nat.ble 1000 i && (match sliceOf s a with
    | some x => Nat.beq x.1 n
    | none => false)))
  | .agg l, a => match a with
    | .agg m => mL C s σ L l m
    | _ => false
  | p, a => match p.sub C.F σ with
    | .ok u => SV.same u a
    | _ => false
def mL (C : Cfg) (s : St) (σ : List Poly) (L : List (Nat × SV)) : List SV → List SV → Bool
  | [], m => match m with
    | [] => true
    | _ => false
  | v :: l, m => match m with
    | a :: m => Bool.casesOn (motive := fun _ => Bool) (mV C s σ L v a) false (mL C s σ L l m)
    | [] => false
end
/-- The cells of the slices met, row by row. -/
def cellsL (C : Cfg) (s : St) (L : List (Nat × SV)) : Nat → List (List SV) → R (List (List SV))
  | _, [] => .ok []
  | r, row :: l => match sliceOf s (getL L r) with
    | some x => (cellsAt C s x.2 row.length).bind fun cs => (cellsL C s L (Nat.succ r) l).bind fun m => .ok (cs :: m)
    | none => .fail "summary: a slice"
def rowsM (F : Facts) (σ : List Poly) : List (List SV) → List (List SV) → Bool
  | [], m => match m with
    | [] => true
    | _ => false
  | r :: l, m => match m with
    | cs :: m => match SV.subL F σ r with
      | .ok us => Bool.casesOn (motive := fun _ => Bool) (SV.sameL us cs) false (rowsM F σ l m)
      | _ => false
    | [] => false
def flatLL : List (List SV) → List Poly
  | [] => []
  | l :: r => SV.flatL l (flatLL r)
def lin : List Poly → List (Nat × Int) → Poly
  | _, [] => []
  | σ, x :: l => Poly.plus (Poly.times (Poly.lit x.2) (nthP σ x.1)) (lin σ l)
def sigma (m : Summ) (flat : List Poly) : List Poly := match m.inv with
  | [] => flat
  | l => l.map (lin flat)
/-- What a summary says of a call with these arguments, if it is one for them. -/
def sumS (C : Cfg) (s : St) (m : Summ) (args : List SV) : Option (R (SV × St)) := match SV.slcL m.args args [] with
  | L => match cellsL C s L 1000 m.rows with
    | .ok css => match sigma m (SV.flatL args (flatLL css)) with
      | σ => match mL C s σ L m.args args && rowsM C.F σ m.rows css with
        | true => match inKinds C.F m.l σ with
          | true => some ((m.tree.run C.F σ s.n).bind fun x => .ok (x.1, addBl s x.2))
          | false => none
        | false => none
    | _ => none
def trySums (C : Cfg) (args : List SV) (s : St) (other : Unit → R (SV × St)) : List Summ → R (SV × St)
  | [] => other ()
  | m :: l => match sumS C s m args with
    | none => trySums C args s other l
    | some r => r
def callSum (C : Cfg) (g : FuncId) (args : List SV) (s : St) (other : Unit → R (SV × St)) : R (SV × St) := trySums C args s other (C.S g)
theorem trySums_ok {C : Cfg} {args : List SV} {s : St} {other : Unit → R (SV × St)} {x : SV × St} : ∀ {l : List Summ}, trySums C args s other l = .ok x → (∃ m ∈ l, sumS C s m args = some (.ok x)) ∨ other () = .ok x
  | [], h => .inr h
  | m :: l, h => by
    simp only [trySums] at h
    split at h
    · rcases trySums_ok h with ⟨m', hm, h1⟩ | h1
      · exact .inl ⟨m', List.mem_cons_of_mem _ hm, h1⟩
      · exact .inr h1
    · rename_i r hr
      subst h
      exact .inl ⟨m, List.mem_cons_self, hr⟩

def fns (C : Cfg) : Nat → Fns
  | 0 => ⟨fun _ _ _ => .fail "fuel", fun _ _ _ _ => .fail "fuel"⟩
  | n + 1 => ⟨fun g args s => callSum C g args s (fun _ => callStep C (fns C n).exec g args s), fun nt c T s => execStep C (fns C n) nt c T s⟩

theorem Rep.of_below {B : Base} {D : Den} {μ : Mu} {s : St} {w w' : World} (h : Rep B D μ s w) (hb : Go.RowKit.Below w.heap.size w w') : Rep B D μ s w' := by
  refine ⟨hb.os.trans h.os, hb.tape.trans h.tape, hb.output.trans h.output, fun k hk => ?_, Nat.le_trans h.size hb.size, fun i b hi => ?_, fun i b hi => ?_, h.sep, fun i b k hi hk e sz hsz hkd => ?_⟩
  · rw [hb.block k (Nat.lt_of_lt_of_le hk h.size), h.base k hk]
  · obtain ⟨h1, h2, h3⟩ := h.rng i b hi
    exact ⟨h1, Nat.lt_of_lt_of_le h2 hb.size, h3⟩
  · obtain ⟨k, xs, rest, ty, h1, h2, h3⟩ := h.blk i b hi
    refine ⟨k, xs, rest, ty, h1, h2, ?_⟩
    rw [hb.block _ (h.rng i b hi).2.1, h3]
  · obtain ⟨cur, h1, h2⟩ := h.cap i b k hi hk e sz hsz hkd
    exact ⟨cur, by rw [hb.block _ (h.rng i b hi).2.1]; exact h1, h2⟩

theorem sliceOf_ok {B : Base} {D : Den} {μ : Mu} {s : St} {w : World} (hr : Rep B D μ s w) {a : SV} {A : Value} {x : Nat × SV} (ha : a.den D μ = some A) (h : sliceOf s a = some x) :
    ∃ b o c, A = .slice (some ⟨b, o, none⟩) x.1 c ∧ x.1 ≤ c ∧ x.2.den D μ = some (.pointer (some ⟨b, o, none⟩)) := by
  cases a <;> simp only [sliceOf] at h <;> try (simp at h; done)
  case slice id off n cap u =>
    simp only [SV.den, Option.map_eq_some_iff] at ha
    obtain ⟨b, hb, rfl⟩ := ha
    cases u
    · simp only at h
      split at h
      · rename_i hle
        simp only [Option.some.injEq] at h; subst h
        exact ⟨b.1, off, cap, rfl, Nat.le_of_ble_eq_true hle, by simp only [SV.den, hb]; rfl⟩
      · simp at h
    · simp only at h
      split at h
      · rename_i hc
        simp only [Option.some.injEq] at h; subst h
        rw [Bool.and_eq_true] at hc
        have h1 := beq_iff.1 hc.1
        subst h1
        exact ⟨b.1, off, b.2, rfl, liveOk_ok hr hb hc.2, by simp only [SV.den, hb]; rfl⟩
      · simp at h
  case oslice id n =>
    obtain ⟨b, hb, hn, rfl⟩ := oslice_den ha
    simp only [Option.some.injEq] at h; subst h
    exact ⟨b.1, 0, b.2, rfl, hn, by simp only [SV.den, hb]; rfl⟩
  case xslice i off n cap =>
    simp only [SV.den, Option.some.injEq] at ha
    subst ha
    split at h
    · rename_i hle
      simp only [Option.some.injEq] at h; subst h
      exact ⟨_, _, cap, rfl, Nat.le_of_ble_eq_true hle, rfl⟩
    · simp at h
  case aslice i n full =>
    simp only [SV.den, Option.some.injEq] at ha
    subst ha
    split at h
    · rename_i hle
      simp only [Option.some.injEq] at h; subst h
      have := Nat.le_of_ble_eq_true hle
      exact ⟨_, _, _, rfl, by show n ≤ full + _; omega, rfl⟩
    · simp at h
/-- Where the slices lie, as the call sees it. -/
def denArg (D : Den) (μ : Mu) (σ : List Poly) (L : List (Nat × SV)) : Den :=
  { env := D.env.sub σ
    xi := fun i => if i < 1000 then D.xi i else match (getL L i).den D μ with
      | some (.slice (some a) _ _) => a
      | _ => ⟨0, 0, none⟩
    xs := fun i => if i < 1000 then D.xs i else match (getL L i).den D μ with
      | some (.slice _ n c) => (none, c - n)
      | _ => (none, 0) }
theorem mV_sub {C : Cfg} {D D' : Den} {μ : Mu} (hs : Sat D.env C.F) {σ : List Poly} (hD : D'.env = D.env.sub σ) {p a : SV} {A : Value} (h : (match p.sub C.F σ with | .ok u => SV.same u a | _ => false) = true) (ha : a.den D μ = some A) : p.den D' (fun _ => none) = some A := by
  split at h
  · rename_i u hu
    rw [← SV.sub_den (μ := μ) hs hD hu, SV.same_eq h, ha]
  · simp at h
mutual
theorem mV_den {C : Cfg} {B : Base} {D : Den} {μ : Mu} {s : St} {w : World} (hs : Sat D.env C.F) (hr : Rep B D μ s w) {σ : List Poly} {L : List (Nat × SV)} : ∀ {p a : SV} {A : Value}, mV C s σ L p a = true → a.den D μ = some A → p.den (denArg D μ σ L) (fun _ => none) = some A
  | .aslice i n full, a, A, h, ha => by
    simp only [mV, Bool.and_eq_true] at h
    obtain ⟨h1, h2, h3, h4⟩ := h
    have h1 := beq_iff.1 h1
    subst h1
    have h2 := SV.same_eq h2
    split at h4
    · rename_i x hx
      have h4 := beq_iff.1 h4
      obtain ⟨b, o, c, rfl, hc, hp⟩ := sliceOf_ok hr ha hx
      have hi : ¬ i < 1000 := by have := Nat.le_of_ble_eq_true h3; omega
      simp only [SV.den, denArg, if_neg hi, h2, ha, h4]
      rw [h4] at hc
      congr 2
      omega
    · simp at h4
  | .agg l, a, A, h, ha => by
    simp only [mV] at h
    split at h
    · rename_i m
      simp only [SV.den, Option.map_eq_some_iff] at ha ⊢
      obtain ⟨cs, hc, rfl⟩ := ha
      exact ⟨cs, mL_den hs hr h hc, rfl⟩
    · simp at h
  | .int k q, a, A, h, ha => mV_sub hs rfl h ha
  | .bool b, a, A, h, ha => mV_sub hs rfl h ha
  | .raw v, a, A, h, ha => mV_sub hs rfl h ha
  | .tuple l, a, A, h, ha => mV_sub hs rfl h ha
  | .ptr _ _, a, A, h, ha => mV_sub hs rfl h ha
  | .xptr _ _, a, A, h, ha => mV_sub hs rfl h ha
  | .slice _ _ _ _ _, a, A, h, ha => mV_sub hs rfl h ha
  | .oslice _ _, a, A, h, ha => mV_sub hs rfl h ha
  | .xslice _ _ _ _, a, A, h, ha => mV_sub hs rfl h ha
  | .xlen _ _, a, A, h, ha => mV_sub hs rfl h ha
  | .func _ _ _, a, A, h, ha => mV_sub hs rfl h ha
theorem mL_den {C : Cfg} {B : Base} {D : Den} {μ : Mu} {s : St} {w : World} (hs : Sat D.env C.F) (hr : Rep B D μ s w) {σ : List Poly} {L : List (Nat × SV)} : ∀ {l m : List SV} {A : List Value}, mL C s σ L l m = true → SV.denL D μ m = some A → SV.denL (denArg D μ σ L) (fun _ => none) l = some A
  | [], m, A, h, ha => by
    cases m with
    | nil => simpa [SV.denL] using ha
    | cons => simp [mL] at h
  | v :: l, m, A, h, ha => by
    cases m with
    | nil => simp [mL] at h
    | cons a m =>
      simp only [mL] at h
      cases hv : mV C s σ L v a
      · rw [hv] at h; simp at h
      · rw [hv] at h
        simp only [SV.denL, Option.map_eq_some_iff, Option.bind_eq_some_iff] at ha ⊢
        obtain ⟨x, hx, y, hy, rfl⟩ := ha
        exact ⟨x, mV_den hs hr hv hx, y, mL_den hs hr h hy, rfl⟩
end
theorem cellsL_len {C : Cfg} {s : St} {L : List (Nat × SV)} : ∀ {rows : List (List SV)} {r : Nat} {css : List (List SV)}, cellsL C s L r rows = .ok css → ∀ i, i < rows.length → ∃ x, sliceOf s (getL L (r + i)) = some x ∧ ∃ cs, cellsAt C s x.2 (rowAt rows i).length = .ok cs ∧ css[i]? = some cs
  | [], r, css, h, i, hi => by simp at hi
  | row :: l, r, css, h, i, hi => by
    simp only [cellsL] at h
    split at h
    · rename_i x hx
      obtain ⟨cs, h1, h2⟩ := R.bind_ok h
      obtain ⟨m, h3, h4⟩ := R.bind_ok h2
      simp only [R.ok.injEq] at h4; subst h4
      cases i with
      | zero => exact ⟨x, hx, cs, h1, rfl⟩
      | succ i =>
        obtain ⟨x', g1, cs', g2, g3⟩ := cellsL_len h3 i (by simpa using hi)
        exact ⟨x', by rw [show r + (i + 1) = Nat.succ r + i by omega]; exact g1, cs', g2, by simpa using g3⟩
    · simp at h
theorem rowsM_get {F : Facts} {σ : List Poly} : ∀ {rows css : List (List SV)}, rowsM F σ rows css = true → ∀ {i : Nat} {cs : List SV}, css[i]? = some cs → SV.subL F σ (rowAt rows i) = .ok cs
  | [], css, h, i, cs, hc => by
    cases css with
    | nil => simp at hc
    | cons => simp [rowsM] at h
  | r :: l, css, h, i, cs, hc => by
    cases css with
    | nil => simp at hc
    | cons c css =>
      simp only [rowsM] at h
      split at h
      · rename_i us hu
        cases hv : SV.sameL us c
        · rw [hv] at h; simp at h
        · rw [hv] at h
          have := SV.sameL_eq hv
          subst this
          cases i with
          | zero => simp at hc; subst hc; exact hu
          | succ i => exact rowsM_get (rows := l) h (by simpa using hc)
      · simp at h
theorem rowAt_big : ∀ {rows : List (List SV)} {i : Nat}, rows.length ≤ i → rowAt rows i = []
  | [], _, _ => rfl
  | r :: l, 0, h => by simp at h
  | r :: l, i + 1, h => by
    show rowAt l i = []
    exact rowAt_big (by simpa using h)
theorem denL_at {D : Den} {μ : Mu} : ∀ {l : List SV} {V : List Value}, SV.denL D μ l = some V → ∀ {j : Nat} {v : SV}, l[j]? = some v → ∃ x, v.den D μ = some x ∧ V[j]? = some x := fun h _ _ hj => denL_get h hj
theorem getL_mem : ∀ (L : List (Nat × SV)) (n : Nat), getL L n = .raw .nilFunc ∨ (n, getL L n) ∈ L
  | [], n => .inl rfl
  | x :: l, n => by
    simp only [getL]
    cases h : Nat.beq x.1 n
    · rcases getL_mem l n with e | e
      · exact .inl e
      · exact .inr (List.mem_cons_of_mem _ e)
    · have := beq_iff.1 h
      subst this
      exact .inr List.mem_cons_self
mutual
theorem slc_den {D : Den} {μ : Mu} : ∀ {p a : SV} {A : Value} {r : List (Nat × SV)} {x : Nat × SV}, a.den D μ = some A → x ∈ SV.slc p a r → x ∈ r ∨ ∃ A, x.2.den D μ = some A
  | .aslice i n full, a, A, r, x, ha, h => by
    simp only [SV.slc, List.mem_cons] at h
    rcases h with rfl | h
    · exact .inr ⟨A, ha⟩
    · exact .inl h
  | .agg l, a, A, r, x, ha, h => by
    simp only [SV.slc] at h
    split at h
    · rename_i m
      simp only [SV.den, Option.map_eq_some_iff] at ha
      obtain ⟨cs, hc, _⟩ := ha
      exact slcL_den hc h
    · exact .inl h
  | .int _ _, a, A, r, x, ha, h => .inl h
  | .bool _, a, A, r, x, ha, h => .inl h
  | .raw _, a, A, r, x, ha, h => .inl h
  | .tuple _, a, A, r, x, ha, h => .inl h
  | .ptr _ _, a, A, r, x, ha, h => .inl h
  | .xptr _ _, a, A, r, x, ha, h => .inl h
  | .slice _ _ _ _ _, a, A, r, x, ha, h => .inl h
  | .oslice _ _, a, A, r, x, ha, h => .inl h
  | .xslice _ _ _ _, a, A, r, x, ha, h => .inl h
  | .xlen _ _, a, A, r, x, ha, h => .inl h
  | .func _ _ _, a, A, r, x, ha, h => .inl h
theorem slcL_den {D : Den} {μ : Mu} : ∀ {l m : List SV} {A : List Value} {r : List (Nat × SV)} {x : Nat × SV}, SV.denL D μ m = some A → x ∈ SV.slcL l m r → x ∈ r ∨ ∃ A, x.2.den D μ = some A
  | [], m, A, r, x, ha, h => .inl h
  | v :: l, m, A, r, x, ha, h => by
    cases m with
    | nil => exact .inl (by simpa [SV.slcL] using h)
    | cons a m =>
      simp only [SV.slcL] at h
      simp only [SV.denL, Option.map_eq_some_iff, Option.bind_eq_some_iff] at ha
      obtain ⟨y, hy, z, hz, _⟩ := ha
      rcases slc_den hy h with h | h
      · exact slcL_den hz h
      · exact .inr h
end
theorem sumS_ok {C : Cfg} {B : Base} {D : Den} (hC : Ok C B D) {g : FuncId} {m : Summ} (hm : m ∈ C.S g) {args : List SV} {s s' : St} {v : SV} (h : sumS C s m args = some (.ok (v, s'))) {μ : Mu} {w : World} {ARGS : List Value}
    (hA : SV.denL D μ args = some ARGS) (hr : Rep B D μ s w) : Calls C.P g ARGS.toArray w fun e w' => ∃ ν V, Ext s s' μ ν ∧ e = .returned V ∧ v.den D ν = some V ∧ Rep B D ν s' w' := by
  unfold sumS at h
  simp only at h
  generalize hL : SV.slcL m.args args [] = L at h
  split at h
  · rename_i css hcss
    generalize hσ : sigma m (SV.flatL args (flatLL css)) = σ at h
    split at h
    · rename_i hmm
      rw [Bool.and_eq_true] at hmm
      split at h
      · rename_i hk
        simp only [Option.some.injEq] at h
        obtain ⟨x, hx, h1⟩ := R.bind_ok h
        simp only [R.ok.injEq, Prod.mk.injEq] at h1
        obtain ⟨rfl, rfl⟩ := h1
        let D' := denArg D μ σ L
        have hDA : SV.denL D' (fun _ => none) m.args = some ARGS := mL_den hC.sat hr hmm.1 hA
        have hbase : BaseOk ⟨w, xWith C.X m.rows⟩ D' := ⟨fun i j v hv => by
          by_cases hi : i < 1000
          · rw [show (Base.mk w (xWith C.X m.rows)).X i = C.X i from xWith_lt hi] at hv
            obtain ⟨V, h1, h2⟩ := hC.base.row i j v (by rw [hC.X]; exact hv)
            refine ⟨V, by rw [hC.closed i j v hi hv D' D]; exact h1, ?_⟩
            have hlt := block_lt_of_cell h2
            have hxi : D'.xi i = D.xi i := if_pos hi
            rw [hxi]
            simp only [World.cell?, hr.base _ hlt] at h2 ⊢
            exact h2
          · rw [show (Base.mk w (xWith C.X m.rows)).X i = rowAt m.rows (i - 1000) from xWith_ge hi] at hv
            have hlen : i - 1000 < m.rows.length := by
              rcases Nat.lt_or_ge (i - 1000) m.rows.length with h | h
              · exact h
              · rw [rowAt_big h] at hv; simp at hv
            obtain ⟨y, hy, cs, hcs, hget⟩ := cellsL_len hcss (i - 1000) hlen
            rw [show 1000 + (i - 1000) = i by omega] at hy
            have hsub := rowsM_get hmm.2 hget
            cases hd : (getL L i).den D μ with
            | none =>
              exfalso
              rcases getL_mem L i with e | e
              · rw [e] at hy; simp [sliceOf] at hy
              · rw [← hL] at e
                rcases slcL_den hA e with h | ⟨A, h⟩
                · simp at h
                · rw [hL, hd] at h; simp at h
            | some A =>
              obtain ⟨b, o, c, rfl, hc, hp⟩ := sliceOf_ok hr hd hy
              obtain ⟨_, Lc, b', o', h3, h4, h5⟩ := cellsAt_ok hC hr hp hcs
              simp only [Value.pointer.injEq, Option.some.injEq, Addr.mk.injEq, and_true] at h4
              obtain ⟨rfl, rfl⟩ := h4
              rw [SV.subL_den (D' := D') (ν := fun _ => none) hC.sat rfl hsub] at h3
              obtain ⟨V, g1, g2⟩ := denL_get h3 hv
              refine ⟨V, g1, ?_⟩
              have hxi : D'.xi i = ⟨b, o, none⟩ := by
                show (if i < 1000 then _ else _) = _
                rw [if_neg hi, hd]
              rw [hxi]
              exact h5 j V g2⟩
        have hgx : ∀ g i, C.gx g = some i → i < 1000 ∧ D'.xi i = ⟨g, 0, none⟩ := fun g i hgi => by
          obtain ⟨h1, h2⟩ := hC.gx g i hgi
          exact ⟨h1, by show (if i < 1000 then _ else _) = _; rw [if_pos h1]; exact h2⟩
        refine (hC.sums g m hm D' w hbase hC.sat.f hgx (inKinds_ok hC.sat hk) ARGS hDA).mono fun e w' he => ?_
        obtain ⟨V, μ', h1, h2, h3⟩ := he
        obtain ⟨h4, h5⟩ := STree.run_ok (D' := D') hC.sat rfl hx
        obtain ⟨ν, ⟨n1, n2, n3⟩, h6, h7⟩ := hr.merge hC.sat (D' := D') rfl h3 h4
        exact ⟨ν, V, ⟨n1, n2, n3⟩, h1, by rw [h5 μ' ν h6]; exact h2, h7⟩
      · simp at h
    · simp at h
  · simp at h

def SExit.to : SExit → Exit
  | .normal => .normal
  | .exit id => .exit id
  | .ret => .ret

theorem argsT_get : ∀ (l : List SV) (k : Nat) (T : Tree SV) (t : Nat), (argsT k l T).get t = if k ≤ t ∧ t < k + l.length then l[t - k]? else T.get t
  | [], k, T, t => by simp only [argsT, List.length_nil]; rw [if_neg (by omega)]
  | v :: l, k, T, t => by
    simp only [argsT, argsT_get l (k + 1), List.length_cons, Tree.get_set]
    by_cases e : t = k
    · subst e; rw [if_neg (by omega), if_pos rfl, if_pos (by omega)]; simp
    · by_cases h : k + 1 ≤ t ∧ t < k + 1 + l.length
      · rw [if_pos h, if_pos (by omega)]
        obtain ⟨j, rfl⟩ : ∃ j, t = k + 1 + j := ⟨t - (k + 1), by omega⟩
        have e1 : k + 1 + j - k = j + 1 := by omega
        have e2 : k + 1 + j - (k + 1) = j := by omega
        rw [e1, e2, List.getElem?_cons_succ]
      · rw [if_neg h, if_neg e, if_neg (by omega)]

section
variable {C : Cfg} {B : Base} {D : Den}

theorem resS_ok (hC : Ok C B D) {μ : Mu} {nt : Nat} {T : Tree SV} {s : St} {a : Act} {w : World} (ha : ARep D μ nt T a) (hr : Rep B D μ s w) : ∀ (l : List ResultVar) (vs : List SV), resS C T s l = .ok vs →
    ∃ Vs, SV.denL D μ vs = some Vs ∧ (l.mapM fun | .tmp t => pure (a.tmps.getD t undef) | .cell x t => do loadVar t (← asAddr (a.tmps.getD x undef)) : Sem (List Value)).run C.P w = .ok Vs w
  | [], vs, h => by simp only [resS, R.ok.injEq] at h; subst h; exact ⟨[], rfl, rfl⟩
  | r :: l, vs, h => by
    simp only [resS] at h
    obtain ⟨v, hv, h1⟩ := R.bind_ok h
    obtain ⟨us, hus, h2⟩ := R.bind_ok h1
    simp only [R.ok.injEq] at h2
    subst h2
    obtain ⟨Us, hUs, g⟩ := resS_ok hC ha hr l us hus
    split at hv
    · rename_i t
      split at hv
      · rename_i u hu
        simp only [R.ok.injEq] at hv
        subst hv
        obtain ⟨V, hV, hat⟩ := ha.tmps t u hu
        refine ⟨V :: Us, by simp [SV.denL, hV, hUs], ?_⟩
        simp only [List.mapM_cons, Sem.run_bind, Sem.run_pure, Result.andThen_ok, g]
        simp [hat]
      · simp at hv
    · rename_i x t
      split at hv
      · rename_i u hu
        obtain ⟨X, hX, hat⟩ := ha.tmps x u hu
        obtain ⟨V, hV, hl⟩ := loadS_ok hC hr hX hv
        refine ⟨V :: Us, by simp [SV.denL, hV, hUs], ?_⟩
        have hx : a.tmps.getD x undef = X := by simp [hat]
        have : (do loadVar t (← asAddr X) : Sem Value).run C.P w = .ok V w := by
          cases X with
          | pointer p =>
            cases p with
            | none => simp [Instr.loadAt, Instr.sureAddr] at hl
            | some p => simpa [Instr.loadAt, Instr.sureAddr, asAddr] using hl
          | _ => simp [Instr.loadAt, Instr.sureAddr] at hl
        simp only [List.mapM_cons, Sem.run_bind, hx] at this ⊢
        rw [this]
        simp only [Result.andThen_ok, g, Sem.run_pure]
      · simp at hv

theorem results_ok (hC : Ok C B D) {μ : Mu} {nt : Nat} {T : Tree SV} {s : St} {a : Act} {w : World} (ha : ARep D μ nt T a) (hr : Rep B D μ s w) {fn : Func} {vs : List SV} (h : resS C T s fn.results.toList = .ok vs) :
    ∃ V, (oneS vs).den D μ = some V ∧ (results fn a.tmps).run C.P w = .ok V w := by
  obtain ⟨Vs, hVs, g⟩ := resS_ok hC ha hr _ vs h
  have hlen := denL_length hVs
  have hrun : (results fn a.tmps).run C.P w = .ok (if h : Vs.toArray.size = 1 then Vs.toArray[0] else .tuple Vs.toArray) w := by
    unfold results
    rw [Array.mapM_eq_mapM_toList]
    simp only [Sem.run_bind, Sem.run_map]
    have step : ∀ z : Result (List Value), z = .ok Vs w → ((z.andThen fun a w' => Result.ok a.toArray w').andThen fun a w' => Sem.run C.P (pure (if h : a.size = 1 then a[0] else Value.tuple a)) w') = Result.ok (if h : Vs.toArray.size = 1 then Vs.toArray[0] else .tuple Vs.toArray) w := fun z hz => by
      subst hz; rfl
    exact step _ g
  rw [hrun]
  match vs, hVs, hlen with
  | [], hVs, hlen =>
    simp only [SV.denL, Option.some.injEq] at hVs
    subst hVs
    exact ⟨_, rfl, by simp⟩
  | [v], hVs, hlen =>
    simp only [SV.denL, Option.map_eq_some_iff, Option.bind_eq_some_iff] at hVs
    obtain ⟨V, hV, y, hy, rfl⟩ := hVs
    simp only [Option.some.injEq] at hy
    subst hy
    exact ⟨V, hV, by simp⟩
  | v :: u :: l, hVs, hlen =>
    refine ⟨.tuple Vs.toArray, by simp [oneS, SV.den, hVs], ?_⟩
    have : ¬ Vs.toArray.size = 1 := by simp [hlen]
    rw [dif_neg this]

theorem fns_ok (hC : Ok C B D) (hm : C.P.follows .mixedOrders = true) : ∀ n : Nat, CallOk C B D (fns C n).call ∧
    (∀ nt c T s r μ a w Q, (fns C n).exec nt c T s = .ok r → ARep D μ nt T a → Rep B D μ s w →
      (∀ ν a' w', Ext s r.2.2 μ ν → ARep D ν nt r.2.1 a' → Rep B D ν r.2.2 w' → Q r.1.to a' w') → c.wp C.P Q a w) ∧
    (∀ nt c T s r μ a w Q, (fns C n).exec nt (.loop c) T s = .ok r → ARep D μ nt T a → Rep B D μ s w →
      (∀ ν a' w', Ext s r.2.2 μ ν → ARep D ν nt r.2.1 a' → Rep B D ν r.2.2 w' → Q r.1.to a' w') → Code.rounds C.P c Q n a w)
  | 0 => by
    refine ⟨fun g args s v s' h => by simp [fns] at h, fun nt c T s r μ a w Q h => by simp [fns] at h, fun nt c T s r μ a w Q h => by simp [fns] at h⟩
  | n + 1 => by
    obtain ⟨ihc, ihe, ihl⟩ := fns_ok hC hm n
    have loop : ∀ nt c T s r μ a w Q, (fns C (n + 1)).exec nt (.loop c) T s = .ok r → ARep D μ nt T a → Rep B D μ s w →
      (∀ ν a' w', Ext s r.2.2 μ ν → ARep D ν nt r.2.1 a' → Rep B D ν r.2.2 w' → Q r.1.to a' w') → Code.rounds C.P c Q (n + 1) a w := fun nt c T s r μ a w Q h ha hr hK => by
      simp only [fns, execStep] at h
      obtain ⟨x, hx, h1⟩ := R.bind_ok h
      rw [rounds_succ]
      refine ihe nt c T s x μ a w _ hx ha hr fun ν a' w' h2 h3 h4 => ?_
      cases he : x.1 with
      | normal =>
        rw [he] at h1
        exact ihl nt c x.2.1 x.2.2 r ν a' w' Q h1 h3 h4 fun κ a2 w2 h5 h6 h7 => hK κ a2 w2 (h2.trans h5) h6 h7
      | exit id =>
        rw [he] at h1
        simp only [R.ok.injEq] at h1
        subst h1
        have := hK ν a' w' h2 h3 h4
        rw [he] at this
        exact this
      | ret =>
        rw [he] at h1
        simp only [R.ok.injEq] at h1
        subst h1
        have := hK ν a' w' h2 h3 h4
        rw [he] at this
        exact this
    refine ⟨fun g args s v s' h μ w ARGS hA hr => ?_, fun nt c T s r μ a w Q h ha hr hK => ?_, loop⟩
    · have hsum : (∃ m ∈ C.S g, sumS C s m args = some (.ok (v, s'))) ∨ callStep C (fns C n).exec g args s = .ok (v, s') := trySums_ok h
      rcases hsum with ⟨m, hm, hs⟩ | h
      · exact sumS_ok hC hm hs hA hr
      simp only [callStep] at h
      split at h
      · rename_i fn hfn
        split at h
        · rename_i c hb
          obtain ⟨hsz, h1⟩ := R.then_ok h
          have hsz : args.length ≤ fn.ntmps := by simpa using hsz
          obtain ⟨r, hx, h2⟩ := R.bind_ok h1
          refine calls_of_wp hfn hb ?_
          have hlen := denL_length hA
          have ha : ARep D μ fn.ntmps (argsT 0 args .leaf) { tmps := ARGS.toArray ++ Array.replicate (fn.ntmps - ARGS.toArray.size) undef, defers := [] } := by
            refine ⟨by simp; omega, rfl, fun t u hu => ?_⟩
            rw [argsT_get] at hu
            split at hu
            · rename_i hlt
              obtain ⟨V, hV, hg⟩ := denL_get hA hu
              refine ⟨V, hV, ?_⟩
              simp only [Nat.sub_zero] at hg
              rw [Array.getElem?_append_left (by simp; omega)]
              simpa using hg
            · simp [Tree.get] at hu
          refine ihe fn.ntmps c _ s r μ _ w _ hx ha hr fun ν a' w' h3 h4 h5 => ?_
          have fin : ∀ (e : Exit), (e = .normal ∨ e = .ret) → (resS C r.2.1 r.2.2 fn.results.toList).bind (fun vs => R.ok (oneS vs, r.2.2)) = R.ok (v, s') → bodyPost C.P fn (fun e w' => ∃ ν V, Ext s s' μ ν ∧ e = .returned V ∧ v.den D ν = some V ∧ Rep B D ν s' w') e a' w' := fun e he h6 => by
            obtain ⟨vs, hvs, h7⟩ := R.bind_ok h6
            simp only [R.ok.injEq, Prod.mk.injEq] at h7
            obtain ⟨rfl, rfl⟩ := h7
            obtain ⟨V, hV, g⟩ := results_ok hC h4 h5 hvs
            rcases he with rfl | rfl
            · exact ⟨h4.defers, V, g, ν, V, h3, rfl, hV, h5⟩
            · exact ⟨h4.defers, V, g, ν, V, h3, rfl, hV, h5⟩
          cases he : r.1 with
          | normal => rw [he] at h2; exact fin .normal (.inl rfl) h2
          | exit id => rw [he] at h2; simp at h2
          | ret => rw [he] at h2; exact fin .ret (.inr rfl) h2
        · simp at h
      · simp at h
    · cases c with
      | skip =>
        simp only [fns, execStep, R.ok.injEq] at h
        subst h
        exact wp_skip (hK μ a w (Ext.refl _ _) ha hr)
      | label l =>
        simp only [fns, execStep, R.ok.injEq] at h
        subst h
        exact wp_label (hK μ a w (Ext.refl _ _) ha hr)
      | exit id =>
        simp only [fns, execStep, R.ok.injEq] at h
        subst h
        exact wp_exit (hK μ a w (Ext.refl _ _) ha hr)
      | ret =>
        simp only [fns, execStep, R.ok.injEq] at h
        subst h
        exact wp_ret (hK μ a w (Ext.refl _ _) ha hr)
      | seq x y =>
        simp only [fns, execStep] at h
        obtain ⟨q, hq, h1⟩ := R.bind_ok h
        refine wp_seq (ihe nt x T s q μ a w _ hq ha hr fun ν a' w' h2 h3 h4 => ?_)
        cases he : q.1 with
        | normal =>
          rw [he] at h1
          exact ihe nt y q.2.1 q.2.2 r ν a' w' Q h1 h3 h4 fun κ a2 w2 h5 h6 h7 => hK κ a2 w2 (h2.trans h5) h6 h7
        | exit id =>
          rw [he] at h1
          simp only [R.ok.injEq] at h1
          subst h1
          have := hK ν a' w' h2 h3 h4
          rw [he] at this
          exact this
        | ret =>
          rw [he] at h1
          simp only [R.ok.injEq] at h1
          subst h1
          have := hK ν a' w' h2 h3 h4
          rw [he] at this
          exact this
      | cond c x y =>
        simp only [fns, execStep] at h
        obtain ⟨v, hv, h1⟩ := R.bind_ok h
        have hd := evO_of hC ha.tmps hv
        split at h1
        · simp only [SV.den, Option.some.injEq] at hd
          exact wp_cond_true hd.symm (ihe nt x T s r μ a w Q h1 ha hr hK)
        · simp only [SV.den, Option.some.injEq] at hd
          exact wp_cond_false hd.symm (ihe nt y T s r μ a w Q h1 ha hr hK)
        · simp at h1
      | block id c =>
        simp only [fns, execStep] at h
        obtain ⟨q, hq, h1⟩ := R.bind_ok h
        refine wp_block (ihe nt c T s q μ a w _ hq ha hr fun ν a' w' h2 h3 h4 => ?_)
        cases he : q.1 with
        | normal =>
          rw [he] at h1
          simp only [R.ok.injEq] at h1
          subst h1
          have := hK ν a' w' h2 h3 h4
          rw [he] at this
          exact this
        | exit j =>
          rw [he] at h1
          simp only [] at h1
          show (if j = id then Q .normal a' w' else Q (.exit j) a' w')
          split at h1
          · rename_i hj
            rw [if_pos (beq_iff.1 hj)]
            simp only [R.ok.injEq] at h1
            subst h1
            exact hK ν a' w' h2 h3 h4
          · rename_i hj
            rw [if_neg fun e => by rw [beq_iff.2 e] at hj; simp at hj]
            simp only [R.ok.injEq] at h1
            subst h1
            have := hK ν a' w' h2 h3 h4
            rw [he] at this
            exact this
        | ret =>
          rw [he] at h1
          simp only [R.ok.injEq] at h1
          subst h1
          have := hK ν a' w' h2 h3 h4
          rw [he] at this
          exact this
      | loop c => exact wp_loop_rounds (n + 1) (loop nt c T s r μ a w Q h ha hr hK)
      | region id ops draw =>
        simp only [fns, execStep] at h
        cases draw with
        | true =>
          simp only [] at h
          obtain ⟨q, hq, h1⟩ := R.bind_ok h
          simp only [R.ok.injEq] at h1
          subst h1
          exact drawn_ok hC hm ihc ha hr hq hK
        | false =>
          simp only [] at h
          obtain ⟨q, hq, h1⟩ := R.bind_ok h
          simp only [R.ok.injEq] at h1
          subst h1
          exact region_ok hC ihc ha hr hq hK
      | rangeFunc f p x y => simp [fns, execStep] at h
      | scope c =>
        simp only [fns, execStep] at h
        refine wp_scope_straight (ihe nt c T s r μ a w _ h ha hr fun ν a' w' h2 h3 h4 => ?_)
        have := hK ν a' w' h2 h3 h4
        cases he : r.1 <;> rw [he] at this <;> exact this
      | goto l => simp [fns, execStep] at h
      | refuse y => simp [fns, execStep] at h
end

end Go.Sym

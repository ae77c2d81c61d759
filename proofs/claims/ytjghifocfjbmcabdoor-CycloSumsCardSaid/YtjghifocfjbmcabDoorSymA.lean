/- SymGo, append and make: slices of the call's own that grow. -/
import Derived.Test.YtjghifocfjbmcabDoorSym7
namespace Go.Sym

/-- The slice will not grow in place any more. -/
theorem Rep.retire {B : Base} {D : Den} {μ : Mu} {s : St} {w : World} (h : Rep B D μ s w) {i : Nat} {k : SBlk} (hk : s.H.get i = some k) (h3 : 3 ≤ k.kind) : Rep B D μ { s with H := s.H.set i ⟨k.cells, 2⟩ } w := by
  refine ⟨h.os, h.tape, h.output, h.base, h.size, h.rng, fun j b hb => ?_, fun j l b c hb hc he => ?_, fun j b k' hb hk' e sz hsz hkd => ?_⟩
  · obtain ⟨k', xs, rest, ty, h1, h2, h4⟩ := h.blk j b hb
    simp only [Tree.get_set]
    by_cases e : j = i
    · subst e
      rw [hk] at h1
      cases h1
      exact ⟨_, xs, rest, ty, if_pos rfl, h2, h4⟩
    · exact ⟨k', xs, rest, ty, by rw [if_neg e]; exact h1, h2, h4⟩
  · rcases h.sep j l b c hb hc he with h1 | ⟨k1, l1, g1, g2, g3, g4, g5⟩
    · exact .inl h1
    · refine .inr ?_
      simp only [Tree.get_set]
      by_cases e1 : j = i <;> by_cases e2 : l = i
      · subst e1; subst e2
        rw [hk] at g1 g2; cases g1; cases g2
        exact absurd (g5 h3).1 (by omega)
      · subst e1
        rw [hk] at g1; cases g1
        exact ⟨⟨k.cells, 2⟩, l1, if_pos rfl, by rw [if_neg e2]; exact g2, by simp, g4, fun h => by simp at h⟩
      · subst e2
        rw [hk] at g2; cases g2
        refine ⟨k1, ⟨k.cells, 2⟩, by rw [if_neg e1]; exact g1, if_pos rfl, g3, by simp, fun h => ⟨by simp, (g5 h).2⟩⟩
      · exact ⟨k1, l1, by rw [if_neg e1]; exact g1, by rw [if_neg e2]; exact g2, g3, g4, g5⟩
  · simp only [Tree.get_set] at hk'
    by_cases e1 : j = i
    · rw [if_pos e1] at hk'
      simp only [Option.some.injEq] at hk'
      rw [← hk'] at hkd
      simp only [liveK] at hkd
      omega
    · rw [if_neg e1] at hk'
      exact h.cap j b k' hb hk' e sz hsz hkd

def grownSt (s : St) (i : Nat) (cs news : List SV) (kd : Nat) : St := ⟨(s.H.set i ⟨cs, 2⟩).set s.n ⟨cs ++ news, kd⟩, s.n + 1⟩

/-- The slice grows in place. -/
theorem Rep.inplace {B : Base} {D : Den} {μ : Mu} {s : St} {w : World} (h : Rep B D μ s w) {i : Nat} {b : Nat × Nat} {k : SBlk} {e sz : Nat} (hb : μ i = some b) (hk : s.H.get i = some k) (hkd : k.kind = liveK e sz) (hsz : sz < 4096)
    {news : List SV} {N : List Value} (hN : SV.denL D μ news = some N) {cur : Array Value} (hcur : w.heap[b.1]? = some (.cells cur e (0, 0))) (hl : k.cells.length + N.length ≤ cur.size) :
    ∃ ν : Mu, Ext s (grownSt s i k.cells news (liveK e sz)) μ ν ∧ ν s.n = some b ∧
      Rep B D ν (grownSt s i k.cells news (liveK e sz)) (w.setRow b.1 (cur.toList.take k.cells.length ++ N ++ cur.toList.drop (k.cells.length + N.length)).toArray) := by
  have h3 : 3 ≤ k.kind := by rw [hkd]; unfold liveK; omega
  have hfresh : μ s.n = none := by
    cases hm : μ s.n with
    | none => rfl
    | some c => have := (h.rng s.n c hm).2.2; omega
  have hin : i ≠ s.n := fun e => by subst e; rw [hfresh] at hb; simp at hb
  let ν : Mu := fun j => if j = s.n then some b else μ j
  have hle : MuLe μ ν := fun j c hc => by
    show (if j = s.n then _ else μ j) = some c
    by_cases e : j = s.n
    · subst e; rw [hfresh] at hc; simp at hc
    · rw [if_neg e]; exact hc
  have hν : ∀ j c, ν j = some c → (j = s.n ∧ c = b) ∨ (j ≠ s.n ∧ μ j = some c) := fun j c hc => by
    have hc' : (if j = s.n then some b else μ j) = some c := hc
    by_cases e : j = s.n
    · rw [if_pos e] at hc'; cases hc'; exact .inl ⟨e, rfl⟩
    · rw [if_neg e] at hc'; exact .inr ⟨e, hc'⟩
  have get : ∀ j, (grownSt s i k.cells news (liveK e sz)).H.get j = if j = s.n then some ⟨k.cells ++ news, liveK e sz⟩ else if j = i then some ⟨k.cells, 2⟩ else s.H.get j := fun j => by simp [grownSt, Tree.get_set]
  obtain ⟨k0, xs, rest, ty, g1, g2, g3⟩ := h.blk i b hb
  rw [hk] at g1
  cases g1
  rw [hcur] at g3
  simp only [Option.some.injEq, Obj.cells.injEq, and_true] at g3
  obtain ⟨hcx, hty⟩ := g3
  subst hty
  have hxl := denL_length g2
  have hNl := denL_length hN
  have hrow : (w.setRow b.1 (cur.toList.take k.cells.length ++ N ++ cur.toList.drop (k.cells.length + N.length)).toArray).heap[b.1]? =
      some (.cells (cur.toList.take k.cells.length ++ N ++ cur.toList.drop (k.cells.length + N.length)).toArray e (0, 0)) := setRow_heap w b.1 cur _ e _ hcur
  have htake : cur.toList.take k.cells.length = xs := by rw [hcx, ← hxl]; simp
  have other : ∀ j c, μ j = some c → j ≠ i → c.1 = b.1 → ∃ l, s.H.get j = some l ∧ l.kind ≠ 0 ∧ l.kind < 3 ∧ l.cells.length ≤ k.cells.length := fun j c hc hj he => by
    rcases h.sep i j b c hb hc he.symm with h1 | ⟨k1, l1, q1, q2, q3, q4, q5⟩
    · exact absurd h1.symm hj
    · rw [hk] at q1; cases q1
      exact ⟨l1, q2, q4, (q5 h3).1, (q5 h3).2⟩
  have hsz' : (w.setRow b.1 (cur.toList.take k.cells.length ++ N ++ cur.toList.drop (k.cells.length + N.length)).toArray).heap.size = w.heap.size := size_setRow _ _ _
  have hbr := h.rng i b hb
  refine ⟨ν, ⟨by simp [grownSt], hle, fun j hj => if_neg (by omega)⟩, if_pos rfl, ⟨h.os, h.tape, h.output, fun m hm => ?_, by rw [hsz']; exact h.size, fun j c hc => ?_, fun j c hc => ?_, fun j l c d hc hd he => ?_, fun j c k' hc hk' e' sz' hsz2 hkd' => ?_⟩⟩
  · rw [setRow_other _ _ _ _ (by omega)]; exact h.base m hm
  · rw [hsz']
    rcases hν j c hc with ⟨rfl, rfl⟩ | ⟨_, hc'⟩
    · exact ⟨hbr.1, hbr.2.1, by simp [grownSt]⟩
    · have := h.rng j c hc'
      exact ⟨this.1, this.2.1, by simp only [grownSt]; omega⟩
  · rw [get]
    rcases hν j c hc with ⟨rfl, rfl⟩ | ⟨hj, hc'⟩
    · refine ⟨_, xs ++ N, cur.toList.drop (k.cells.length + N.length), e, if_pos rfl, denL_append (SV.denL_mono hle _ g2) (SV.denL_mono hle _ hN), ?_⟩
      rw [hrow, htake]
    · rw [if_neg hj]
      by_cases e1 : j = i
      · subst e1
        rw [hb] at hc'; cases hc'
        refine ⟨_, xs, N ++ cur.toList.drop (k.cells.length + N.length), e, if_pos rfl, SV.denL_mono hle _ g2, ?_⟩
        rw [hrow, htake, List.append_assoc]
      · rw [if_neg e1]
        obtain ⟨k2, xs2, rest2, ty2, q1, q2, q3⟩ := h.blk j c hc'
        by_cases e2 : c.1 = b.1
        · obtain ⟨l, r1, _, _, r4⟩ := other j c hc' e1 e2
          rw [q1] at r1; cases r1
          rw [e2, hcur] at q3
          simp only [Option.some.injEq, Obj.cells.injEq, and_true] at q3
          have hx2 := denL_length q2
          have hpre : cur.toList.take xs2.length = xs2 := by rw [q3.1]; simp
          refine ⟨k2, xs2, (cur.toList.take k.cells.length ++ N ++ cur.toList.drop (k.cells.length + N.length)).drop xs2.length, e, q1, SV.denL_mono hle _ q2, ?_⟩
          rw [e2, hrow]
          congr 2
          apply congrArg
          have ht : (cur.toList.take k.cells.length ++ N ++ cur.toList.drop (k.cells.length + N.length)).take xs2.length = xs2 := by
            have hle2 : xs2.length ≤ (cur.toList.take k.cells.length).length := by rw [htake, hxl, hx2]; exact r4
            rw [List.append_assoc, List.take_append_of_le_length hle2, List.take_take, Nat.min_eq_left (by rw [hx2]; exact r4), hpre]
          conv => lhs; rw [← List.take_append_drop xs2.length (cur.toList.take k.cells.length ++ N ++ cur.toList.drop (k.cells.length + N.length))]
          rw [ht]
        · exact ⟨k2, xs2, rest2, ty2, q1, SV.denL_mono hle _ q2, by rw [setRow_other _ _ _ _ e2]; exact q3⟩
  · rw [get, get]
    have live2 : ∀ (l : Nat) (d : Nat × Nat), l ≠ s.n → μ l = some d → d.1 = b.1 → ∃ q, (if l = i then some (⟨k.cells, 2⟩ : SBlk) else s.H.get l) = some q ∧ q.kind ≠ 0 ∧ q.kind < 3 ∧ q.cells.length ≤ k.cells.length := fun l d hl hd he => by
      by_cases e1 : l = i
      · exact ⟨_, if_pos e1, by simp, by simp, Nat.le_refl _⟩
      · obtain ⟨q, r1, r2, r3, r4⟩ := other l d hd e1 he
        exact ⟨q, by rw [if_neg e1]; exact r1, r2, r3, r4⟩
    have hk3 : liveK e sz ≠ 0 ∧ 3 ≤ liveK e sz := by unfold liveK; omega
    rcases hν j c hc with ⟨rfl, rfl⟩ | ⟨hj, hc'⟩ <;> rcases hν l d hd with ⟨rfl, rfl⟩ | ⟨hl', hd'⟩
    · exact .inl rfl
    · obtain ⟨q, r1, r2, r3, r4⟩ := live2 l d hl' hd' he.symm
      exact .inr ⟨_, q, if_pos rfl, by rw [if_neg hl']; exact r1, hk3.1, r2, fun _ => ⟨r3, by simp only [List.length_append]; omega⟩⟩
    · obtain ⟨q, r1, r2, r3, r4⟩ := live2 j c hj hc' he
      exact .inr ⟨q, _, by rw [if_neg hj]; exact r1, if_pos rfl, r2, hk3.1, fun h => by omega⟩
    · rw [if_neg hj, if_neg hl']
      by_cases e3 : c.1 = b.1
      · obtain ⟨q, r1, r2, r3, r4⟩ := live2 j c hj hc' e3
        obtain ⟨q', r1', r2', r3', r4'⟩ := live2 l d hl' hd' (by rw [← he]; exact e3)
        exact .inr ⟨q, q', r1, r1', r2, r2', fun h => by omega⟩
      · have hji : j ≠ i := fun e => by subst e; rw [hb] at hc'; cases hc'; exact e3 rfl
        have hli : l ≠ i := fun e => by subst e; rw [hb] at hd'; cases hd'; exact e3 he
        rw [if_neg hji, if_neg hli]
        exact h.sep j l c d hc' hd' he
  · rw [get] at hk'
    rcases hν j c hc with ⟨rfl, rfl⟩ | ⟨hj, hc'⟩
    · rw [if_pos rfl] at hk'
      simp only [Option.some.injEq] at hk'
      rw [← hk'] at hkd'
      obtain ⟨rfl, rfl⟩ := liveK_inj hkd' hsz hsz2
      obtain ⟨cur', r1, r2, r3⟩ := h.cap i c k hb hk e sz hsz hkd
      rw [hcur] at r1
      simp only [Option.some.injEq, Obj.cells.injEq, and_true] at r1
      subst r1
      refine ⟨_, hrow, ?_, r3⟩
      rw [← r2]
      simp only [List.size_toArray, List.length_append, List.length_take, List.length_drop, Array.length_toList]
      omega
    · rw [if_neg hj] at hk'
      by_cases e1 : j = i
      · rw [if_pos e1] at hk'
        simp only [Option.some.injEq] at hk'
        rw [← hk'] at hkd'
        simp only [liveK] at hkd'
        omega
      · rw [if_neg e1] at hk'
        obtain ⟨cur', r1, r2⟩ := h.cap j c k' hc' hk' e' sz' hsz2 hkd'
        have e2 : c.1 ≠ b.1 := fun e2 => by
          obtain ⟨q, s1, _, s3, _⟩ := other j c hc' e1 e2
          rw [hk'] at s1; cases s1
          rw [hkd'] at s3
          unfold liveK at s3
          omega
        exact ⟨cur', by rw [setRow_other _ _ _ _ e2]; exact r1, r2⟩

/-- What an append or a make of this element type needs to know. -/
def elemS (C : Cfg) (t : TypeId) : R (TypeId × (Nat × Nat)) := (undT C t).bind fun d => match d with
  | .slice e => match C.P.info? e with
    | some i => match i.zero with
      | some z => R.then (Nat.beq z.cells.size i.size && (Nat.blt 0 i.size && (Nat.blt i.size 4096 && Nat.ble i.bytes 1000000))) "append: the element" (.ok (e, (i.size, i.bytes)))
      | none => .fail "append: zero"
    | none => .fail "append: type"
  | _ => .fail "append: slice expected"
theorem elemS_ok {C : Cfg} {t : TypeId} {x : TypeId × (Nat × Nat)} (h : elemS C t = .ok x) : C.P.underlying t = some (.slice x.1) ∧ ∃ i z, C.P.info? x.1 = some i ∧ i.zero = some z ∧ i.size = x.2.1 ∧ i.bytes = x.2.2 ∧ z.cells.size = i.size ∧ 0 < i.size ∧ i.size < 4096 ∧ i.bytes ≤ 1000000 := by
  obtain ⟨d, hu0, h1⟩ := R.bind_ok h
  have hu := undT_ok hu0
  split at h1
  · rename_i e
    split at h1
    · rename_i i hi
      split at h1
      · rename_i z hz
        obtain ⟨hc, h2⟩ := R.then_ok h1
        simp only [R.ok.injEq] at h2
        subst h2
        simp only [Bool.and_eq_true] at hc
        have c2 := blt_iff.1 hc.2.1
        have c3 := blt_iff.1 hc.2.2.1
        exact ⟨hu, i, z, hi, hz, rfl, rfl, beq_iff.1 hc.1, c2, c3, by simpa using hc.2.2.2⟩
      · simp at h1
    · simp at h1
  · simp at h1

/-- The cells that are appended, and their number in elements. -/
def newsS (C : Cfg) (s : St) (sz : Nat) (y : SV) : R (Nat × List SV) := match y with
  | .slice id off m _ _ => (cellsAt C s (.ptr id off) (m * sz)).bind fun l => .ok (m, l)
  | .xslice i off m _ => (cellsAt C s (.xptr i off) (m * sz)).bind fun l => .ok (m, l)
  | .aslice i m _ => (cellsAt C s (.xptr i 0) (m * sz)).bind fun l => .ok (m, l)
  | .oslice id m => (cellsAt C s (.ptr id 0) (m * sz)).bind fun l => .ok (m, l)
  | _ => .fail "append: what"
theorem newsS_ok {C : Cfg} {B : Base} {D : Den} {μ : Mu} {s : St} {w : World} (hC : Ok C B D) (hr : Rep B D μ s w) {sz : Nat} {y : SV} {Y : Value} {x : Nat × List SV} (hy : y.den D μ = some Y) (h : newsS C s sz y = .ok x) :
    ∃ N a c, SV.denL D μ x.2 = some N ∧ Y = .slice (some a) x.1 c ∧ N.length = x.1 * sz ∧ ∀ j V, N[j]? = some V → w.cell? (a.add j) = some V := by
  unfold newsS at h
  split at h
  · rename_i id off m c u
    obtain ⟨l, hl, h1⟩ := R.bind_ok h
    simp only [R.ok.injEq] at h1
    subst h1
    simp only [SV.den, Option.map_eq_some_iff] at hy
    obtain ⟨b, hb, rfl⟩ := hy
    obtain ⟨h2, L, b', o, h3, h4, h5⟩ := cellsAt_ok (x := .ptr id off) hC hr (by simp only [SV.den, hb]; rfl) hl
    simp only [Value.pointer.injEq, Option.some.injEq, Addr.mk.injEq, and_true] at h4
    obtain ⟨rfl, rfl⟩ := h4
    exact ⟨L, _, _, h3, rfl, by rw [denL_length h3, h2], fun j V hj => by rw [Addr.add_lit]; exact h5 j V hj⟩
  · rename_i i off m c
    obtain ⟨l, hl, h1⟩ := R.bind_ok h
    simp only [R.ok.injEq] at h1
    subst h1
    simp only [SV.den, Option.some.injEq] at hy
    subst hy
    obtain ⟨h2, L, b', o, h3, h4, h5⟩ := cellsAt_ok (x := .xptr i off) (X := .pointer (some ⟨(D.xi i).block, (D.xi i).off + off, none⟩)) hC hr rfl hl
    simp only [Value.pointer.injEq, Option.some.injEq, Addr.mk.injEq, and_true] at h4
    obtain ⟨h41, h42⟩ := h4
    refine ⟨L, _, _, h3, rfl, by rw [denL_length h3, h2], fun j V hj => ?_⟩
    have := h5 j V hj
    rw [← h41, ← h42] at this
    rw [Addr.add_lit]
    exact this
  · rename_i i m full
    obtain ⟨l, hl, h1⟩ := R.bind_ok h
    simp only [R.ok.injEq] at h1
    subst h1
    simp only [SV.den, Option.some.injEq] at hy
    subst hy
    obtain ⟨h2, L, b', o, h3, h4, h5⟩ := cellsAt_ok (x := .xptr i 0) (X := .pointer (some ⟨(D.xi i).block, (D.xi i).off + 0, none⟩)) hC hr rfl hl
    simp only [Value.pointer.injEq, Option.some.injEq, Addr.mk.injEq, and_true] at h4
    obtain ⟨h41, h42⟩ := h4
    refine ⟨L, _, _, h3, rfl, by rw [denL_length h3, h2], fun j V hj => ?_⟩
    have := h5 j V hj
    rw [← h41, ← h42] at this
    rw [Addr.add_lit]
    simpa using this
  · rename_i id m
    obtain ⟨l, hl, h1⟩ := R.bind_ok h
    simp only [R.ok.injEq] at h1
    subst h1
    obtain ⟨b, hb, hn, rfl⟩ := oslice_den hy
    obtain ⟨h2, L, b', o, h3, h4, h5⟩ := cellsAt_ok (x := .ptr id 0) hC hr (by simp only [SV.den, hb]; rfl) hl
    simp only [Value.pointer.injEq, Option.some.injEq, Addr.mk.injEq, and_true] at h4
    obtain ⟨rfl, rfl⟩ := h4
    exact ⟨L, _, _, h3, rfl, by rw [denL_length h3, h2], fun j V hj => by rw [Addr.add_lit]; exact h5 j V hj⟩
  · simp at h

def isNilS : SV → Bool
  | .raw (.slice none 0 0) => true
  | _ => false
/-- Is there nothing to append? -/
def len0 : SV → Bool
  | .slice _ _ m _ _ => Nat.beq m 0
  | .xslice _ _ m _ => Nat.beq m 0
  | .aslice _ m _ => Nat.beq m 0
  | .oslice _ m => Nat.beq m 0
  | .raw (.slice none m _) => Nat.beq m 0
  | _ => false
/-- Is there room, whatever the block? -/
def room0 : SV → Bool
  | .slice _ _ n c u => match u with
    | false => Nat.ble n c
    | true => false
  | .oslice _ _ => true
  | .raw (.slice none n c) => Nat.ble n c
  | _ => false
theorem len0_ok {D : Den} {μ : Mu} {y : SV} {Y : Value} (hy : y.den D μ = some Y) (h : len0 y = true) : ∃ a c, Y = .slice a 0 c := by
  unfold len0 at h
  split at h
  · simp only [SV.den, Option.map_eq_some_iff] at hy
    obtain ⟨b, hb, rfl⟩ := hy
    rw [beq_iff.1 h]; exact ⟨_, _, rfl⟩
  · simp only [SV.den, Option.some.injEq] at hy
    subst hy; rw [beq_iff.1 h]; exact ⟨_, _, rfl⟩
  · simp only [SV.den, Option.some.injEq] at hy
    subst hy; rw [beq_iff.1 h]; exact ⟨_, _, rfl⟩
  · obtain ⟨b, hb, hn, rfl⟩ := oslice_den hy
    rw [beq_iff.1 h]; exact ⟨_, _, rfl⟩
  · simp only [SV.den, Option.some.injEq] at hy
    subst hy; rw [beq_iff.1 h]; exact ⟨_, _, rfl⟩
  · simp at h
theorem room0_ok {D : Den} {μ : Mu} {x : SV} {X : Value} (hx : x.den D μ = some X) (h : room0 x = true) : ∃ a n c, X = .slice a n c ∧ n ≤ c := by
  unfold room0 at h
  split at h
  · rename_i id off n c u
    split at h
    · simp only [SV.den, Option.map_eq_some_iff] at hx
      obtain ⟨b, hb, rfl⟩ := hx
      exact ⟨_, _, _, rfl, by simpa using h⟩
    · simp at h
  · obtain ⟨b, hb, hn, rfl⟩ := oslice_den hx
    exact ⟨_, _, _, rfl, hn⟩
  · simp only [SV.den, Option.some.injEq] at hx
    subst hx
    exact ⟨_, _, _, rfl, by simpa using h⟩
  · simp at h
theorem run_append_none {P : Program} {t ty e : TypeId} {i : TypeInfo} (w : World) (ht : P.underlying t = some (.slice e)) (hi : P.info? e = some i) (a b : Option Addr) (n c d : Nat) (hnc : n ≤ c) :
    (Builtin.append_ #[t, t] ty #[.slice a n c, .slice b 0 d]).run P w = .ok (.slice a n c) w := by
  have hs : (sizeOf e).run P w = .ok i.size w := by simp [sizeOf, typeInfo, hi]
  have hf : (Builtin.firstCells i.size 0 (.slice b 0 d)).run P w = .ok #[] w := by
    cases b <;> simp [Builtin.firstCells, loadCells, loadCellsFrom]
  cases a <;> simp [Builtin.append_, Builtin.lenOf, run_underlying ht, hs, hf, hnc, storeCells]
def appendS1 (C : Cfg) (s : St) (t u : TypeId) (x y : SV) : R (SV × St) := R.then (Nat.beq t u) "append: types" ((elemS C t).bind fun e => (newsS C s e.2.1 y).bind fun nw =>
  R.then (Nat.blt 0 nw.1 && (Nat.ble nw.1 1000 && SV.ones nw.2)) "append: many" (match x with
    | .slice id off n c open_ => R.then (Nat.ble n 1000) "append: long" (match open_ with
      | true => match s.H.get id with
        | some k => R.then (Nat.beq off 0 && (Nat.beq c 0 && (Nat.beq k.kind (liveK e.1 e.2.1) && Nat.beq k.cells.length (n * e.2.1)))) "append: an earlier state"
            (.ok (.slice s.n 0 (n + nw.1) 0 true, grownSt s id k.cells nw.2 (liveK e.1 e.2.1)))
        | none => .fail "append: no block"
      | false => R.then (Nat.blt c (n + nw.1)) "append: room" ((cellsAt C s (.ptr id off) (n * e.2.1)).bind fun old =>
            .ok (.slice s.n 0 (n + nw.1) 0 true, s.newK (old ++ nw.2) (liveK e.1 e.2.1))))
    | x => R.then (isNilS x) "append: to what" (.ok (.slice s.n 0 nw.1 0 true, s.newK nw.2 (liveK e.1 e.2.1)))))

theorem ones_oneCell {D : Den} {μ : Mu} {l : List SV} {L : List Value} (h : SV.ones l = true) (hL : SV.denL D μ l = some L) : ∀ x ∈ L, x.oneCell' = true := fun x hx => by
  obtain ⟨j, hj⟩ := List.getElem?_of_mem hx
  have hlt : j < l.length := by rw [← denL_length hL]; exact (List.getElem?_eq_some_iff.1 hj).1
  obtain ⟨V, hV, hg⟩ := denL_get hL (List.getElem?_eq_getElem hlt)
  rw [hj] at hg
  cases hg
  exact SV.one_den hV (SV.ones_mem h _ (List.getElem_mem hlt))

theorem appendS1_ok {C : Cfg} {B : Base} {D : Den} {μ : Mu} {s s' : St} {w : World} (hC : Ok C B D) (hr : Rep B D μ s w) {t u ty : TypeId} {x y v : SV} {X Y : Value} (hx : x.den D μ = some X) (hy : y.den D μ = some Y) (h : appendS1 C s t u x y = .ok (v, s')) :
    ∃ V ν w', Ext s s' μ ν ∧ v.den D ν = some V ∧ (Builtin.append_ #[t, u] ty #[X, Y]).run C.P w = .ok V w' ∧ Rep B D ν s' w' := by
  obtain ⟨htu, h1⟩ := R.then_ok h
  have htu := beq_iff.1 htu
  subst htu
  obtain ⟨e, he, h2⟩ := R.bind_ok h1
  obtain ⟨ht, i, z, hi, hz, hsz, hby, hzs, hpos, hlt, hbb⟩ := elemS_ok he
  obtain ⟨nw, hnw, h3⟩ := R.bind_ok h2
  obtain ⟨hc, h4⟩ := R.then_ok h3
  obtain ⟨N, a, c, hN, rfl, hNl, hcell⟩ := newsS_ok hC hr hy hnw
  simp only [Bool.and_eq_true] at hc
  have hm0 : 0 < nw.1 := blt_iff.1 hc.1
  have hm1 : nw.1 ≤ 1000 := by simpa using hc.2.1
  have hone := ones_oneCell hc.2.2 hN
  rw [← hsz] at hNl h4
  clear h h1 h2 h3 hc
  have hlive : ∀ (cap need : Nat) (xs : List Value) (ZZ : Array Value), xs.length = need * i.size → ZZ.size = (cap - need) * i.size → need ≤ cap → cap ≤ maxLen →
      ∀ e' sz', sz' < 4096 → liveK e.1 i.size = liveK e' sz' → e.1 = e' ∧ (xs ++ ZZ.toList).length = cap * sz' ∧ cap ≤ maxLen := fun cap need xs ZZ h1 h2 h3 h4 e' sz' h5 h6 => by
    obtain ⟨rfl, rfl⟩ := liveK_inj h6 hlt h5
    refine ⟨rfl, ?_, h4⟩
    rw [List.length_append, h1, Array.length_toList, h2, ← Nat.add_mul]
    congr 1
    omega
  split at h4
  · rename_i id off n cc open_
    obtain ⟨hn, h5⟩ := R.then_ok h4
    have hn : n ≤ 1000 := by simpa using hn
    have hml : n + nw.1 ≤ maxLen := by simp only [maxLen]; omega
    split at h5
    · split at h5
      · rename_i k hk
        obtain ⟨hc, h6⟩ := R.then_ok h5
        simp only [R.ok.injEq, Prod.mk.injEq] at h6
        obtain ⟨rfl, rfl⟩ := h6
        simp only [Bool.and_eq_true] at hc
        have c1 := beq_iff.1 hc.1
        have c2 := beq_iff.1 hc.2.1
        have c3 := beq_iff.1 hc.2.2.1
        have c4 := beq_iff.1 hc.2.2.2
        subst c1 c2
        simp only [SV.den, Option.map_eq_some_iff, if_true, Nat.sub_zero] at hx
        obtain ⟨b, hb, rfl⟩ := hx
        obtain ⟨cur, g1, g2, g3⟩ := hr.cap id b k hb hk e.1 i.size hlt c3
        by_cases hroom : n + nw.1 ≤ b.2
        · have hfit : n * i.size + N.length ≤ cur.size := by rw [hNl, g2, ← Nat.add_mul]; exact Nat.mul_le_mul_right _ hroom
          have hrun := run_append_room (P := C.P) w t ty e.1 i ht hi b.1 n b.2 cur g1 a nw.1 c N hNl hcell hone hroom hfit
          obtain ⟨ν, q1, q2, q3⟩ := hr.inplace hb hk c3 hlt hN g1 (by rw [c4]; exact hfit)
          rw [c4] at q3
          exact ⟨_, ν, _, q1, by simp [SV.den, q2], hrun, q3⟩
        · obtain ⟨k0, xs, rest, ty0, p1, p2, p3⟩ := hr.blk id b hb
          rw [hk] at p1; cases p1
          have hxl := denL_length p2
          have holds : ∀ j V, xs[j]? = some V → w.cell? ((⟨b.1, 0, none⟩ : Addr).add j) = some V := fun j V hj => by
            rw [Addr.add_lit]
            simp only [World.cell?, p3, Nat.zero_add]
            have hlt := (List.getElem?_eq_some_iff.1 hj).1
            simp [List.getElem?_append_left hlt, hj]
          have hrun := run_append_grow (P := C.P) w t ty e.1 i z ht hi hz ⟨b.1, 0, none⟩ n b.2 xs (by rw [hxl, c4]) holds a nw.1 c N hNl hcell (by omega) (by omega) (growslice_fits (by omega) (by
            have : (n + nw.1) * i.bytes ≤ 2000 * 1000000 := Nat.mul_le_mul (by omega) hbb
            omega))
          have hr1 := (hr.retire hk (by rw [c3]; unfold liveK; omega)).drew (w.drawn + 1)
          have hge := grownCap_ge w (n + nw.1) b.2 e.1
          have hcm := grownCap_le_maxLen w (n + nw.1) b.2 e.1 hml
          obtain ⟨ν, q1, q2, q3⟩ := hr1.newK (kd := liveK e.1 i.size) (cap := grownCap w (n + nw.1) b.2 e.1) (rest := (Builtin.zeroCells z.cells (grownCap w (n + nw.1) b.2 e.1 - (n + nw.1))).toList) (ty := e.1) (denL_append p2 hN)
            (hlive _ (n + nw.1) _ _ (by rw [List.length_append, hxl, c4, hNl, ← Nat.add_mul]) (by rw [size_zeroCells, hzs]) hge hcm)
          refine ⟨_, ν, _, ⟨q1.n, q1.le, q1.old⟩, by simp only [SV.den, q2]; rfl, hrun, ?_⟩
          have e1 : xs.toArray ++ N.toArray ++ Builtin.zeroCells z.cells (grownCap w (n + nw.1) b.2 e.1 - (n + nw.1)) = (xs ++ N ++ (Builtin.zeroCells z.cells (grownCap w (n + nw.1) b.2 e.1 - (n + nw.1))).toList).toArray := by
            apply Array.ext'; simp
          rw [e1]
          exact q3
      · simp at h5
    · obtain ⟨hc, h6⟩ := R.then_ok h5
      have hcap := blt_iff.1 hc
      obtain ⟨old, hold, h7⟩ := R.bind_ok h6
      simp only [R.ok.injEq, Prod.mk.injEq] at h7
      obtain ⟨rfl, rfl⟩ := h7
      simp only [SV.den, Option.map_eq_some_iff, Bool.false_eq_true, if_false] at hx
      obtain ⟨b, hb, rfl⟩ := hx
      obtain ⟨o1, L, b', o, o3, o4, o5⟩ := cellsAt_ok (x := .ptr id off) hC hr (by simp only [SV.den, hb]; rfl) hold
      simp only [Value.pointer.injEq, Option.some.injEq, Addr.mk.injEq, and_true] at o4
      obtain ⟨rfl, rfl⟩ := o4
      have hLl : L.length = n * i.size := by rw [denL_length o3, o1]
      have hrun := run_append_grow (P := C.P) w t ty e.1 i z ht hi hz ⟨b.1, off, none⟩ n cc L hLl (fun j V hj => by rw [Addr.add_lit]; exact o5 j V hj) a nw.1 c N hNl hcell hcap (by omega) (growslice_fits hcap (by
        have : (n + nw.1) * i.bytes ≤ 2000 * 1000000 := Nat.mul_le_mul (by omega) hbb
        omega))
      have hr1 := hr.drew (w.drawn + 1)
      have hge := grownCap_ge w (n + nw.1) cc e.1
      have hcm := grownCap_le_maxLen w (n + nw.1) cc e.1 hml
      obtain ⟨ν, q1, q2, q3⟩ := hr1.newK (kd := liveK e.1 i.size) (cap := grownCap w (n + nw.1) cc e.1) (rest := (Builtin.zeroCells z.cells (grownCap w (n + nw.1) cc e.1 - (n + nw.1))).toList) (ty := e.1) (denL_append o3 hN)
        (hlive _ (n + nw.1) _ _ (by rw [List.length_append, hLl, hNl, ← Nat.add_mul]) (by rw [size_zeroCells, hzs]) hge hcm)
      refine ⟨_, ν, _, ⟨q1.n, q1.le, q1.old⟩, by simp only [SV.den, q2]; rfl, hrun, ?_⟩
      have e1 : L.toArray ++ N.toArray ++ Builtin.zeroCells z.cells (grownCap w (n + nw.1) cc e.1 - (n + nw.1)) = (L ++ N ++ (Builtin.zeroCells z.cells (grownCap w (n + nw.1) cc e.1 - (n + nw.1))).toList).toArray := by
        apply Array.ext'; simp
      rw [e1]
      exact q3
  · rename_i x hno
    obtain ⟨hnil, h6⟩ := R.then_ok h4
    simp only [R.ok.injEq, Prod.mk.injEq] at h6
    obtain ⟨rfl, rfl⟩ := h6
    have hX : X = .slice none 0 0 := by
      unfold isNilS at hnil
      split at hnil
      · simpa [SV.den] using hx.symm
      · simp at hnil
    subst hX
    have hml : nw.1 ≤ maxLen := by simp only [maxLen]; omega
    have hrun := run_append_nil (P := C.P) w t ty e.1 i z ht hi hz a nw.1 c N hNl hcell hm0 (by omega) (by
      have : nw.1 * i.bytes ≤ 1000 * 1000000 := Nat.mul_le_mul hm1 hbb
      omega)
    have hr1 := hr.drew (w.drawn + 1)
    have hge := grownCap_ge w nw.1 0 e.1
    have hcm := grownCap_le_maxLen w nw.1 0 e.1 hml
    obtain ⟨ν, q1, q2, q3⟩ := hr1.newK (kd := liveK e.1 i.size) (cap := grownCap w nw.1 0 e.1) (rest := (Builtin.zeroCells z.cells (grownCap w nw.1 0 e.1 - nw.1)).toList) (ty := e.1) hN
      (hlive _ nw.1 _ _ hNl (by rw [size_zeroCells, hzs]) hge hcm)
    refine ⟨_, ν, _, q1, by simp only [SV.den, q2]; rfl, hrun, ?_⟩
    have e1 : N.toArray ++ Builtin.zeroCells z.cells (grownCap w nw.1 0 e.1 - nw.1) = (N ++ (Builtin.zeroCells z.cells (grownCap w nw.1 0 e.1 - nw.1)).toList).toArray := by
      apply Array.ext'; simp
    rw [e1]
    exact q3

theorem liveK_split {k : Nat} (h3 : 2 < k) : k = liveK ((k - 3) / 4096) ((k - 3) % 4096) ∧ (k - 3) % 4096 < 4096 := by
  refine ⟨?_, Nat.mod_lt _ (by decide)⟩
  unfold liveK
  have := Nat.div_add_mod (k - 3) 4096
  omega
/-- Is the block one that has grown to n elements? -/
def liveOk (s : St) (id n : Nat) : Bool := match s.H.get id with
  | some k => Nat.blt 2 k.kind && (Nat.blt 0 ((k.kind - 3) % 4096) && Nat.beq k.cells.length (n * ((k.kind - 3) % 4096)))
  | none => false
theorem liveOk_ok {B : Base} {D : Den} {μ : Mu} {s : St} {w : World} (hr : Rep B D μ s w) {id n : Nat} {b : Nat × Nat} (hb : μ id = some b) (h : liveOk s id n = true) : n ≤ b.2 := by
  unfold liveOk at h
  split at h
  · rename_i k hk
    simp only [Bool.and_eq_true] at h
    obtain ⟨h4, h5, h6⟩ := h
    have h6 := beq_iff.1 h6
    have h5 := blt_iff.1 h5
    obtain ⟨g1, g2⟩ := liveK_split (blt_iff.1 h4)
    obtain ⟨cur, f1, f2, f3⟩ := hr.cap id b k hb hk _ _ g2 g1
    obtain ⟨k', xs, rest, ty, e1, e2, e3⟩ := hr.blk id b hb
    rw [hk] at e1
    simp only [Option.some.injEq] at e1
    subst e1
    rw [e3] at f1
    simp only [Option.some.injEq, Obj.cells.injEq] at f1
    have hl := denL_length e2
    have hsz : (xs ++ rest).toArray.size = b.2 * ((k.kind - 3) % 4096) := by rw [f1.1]; exact f2
    simp only [List.size_toArray, List.length_append] at hsz
    have hle : n * ((k.kind - 3) % 4096) ≤ b.2 * ((k.kind - 3) % 4096) := by omega
    exact Nat.le_of_mul_le_mul_right hle h5
  · simp at h
def ofO : SV → SV
  | .oslice id n => .slice id 0 n 0 true
  | x => x
theorem ofO_den {D : Den} {μ : Mu} {x : SV} {X : Value} (hx : x.den D μ = some X) : (ofO x).den D μ = some X := by
  unfold ofO
  split
  · obtain ⟨b, hb, hn, rfl⟩ := oslice_den hx
    simp only [SV.den, hb, Option.map_some, if_true, Nat.sub_zero]
  · exact hx
def toO (r : SV × St) : R (SV × St) := match r.1 with
  | .slice id 0 n 0 true => match liveOk r.2 id n with
    | true => .ok (.oslice id n, r.2)
    | false => .fail "append: the block"
  | _ => .fail "append: the result"
/-- append, of nothing too. -/
def appendS (C : Cfg) (s : St) (t u : TypeId) (x y : SV) : R (SV × St) := match len0 y && room0 x with
  | true => R.then (Nat.beq t u) "append: types" ((elemS C t).bind fun _ => .ok (x, s))
  | false => (appendS1 C s t u (ofO x) y).bind toO
theorem appendS_ok {C : Cfg} {B : Base} {D : Den} {μ : Mu} {s s' : St} {w : World} (hC : Ok C B D) (hr : Rep B D μ s w) {t u ty : TypeId} {x y v : SV} {X Y : Value} (hx : x.den D μ = some X) (hy : y.den D μ = some Y) (h : appendS C s t u x y = .ok (v, s')) :
    ∃ V ν w', Ext s s' μ ν ∧ v.den D ν = some V ∧ (Builtin.append_ #[t, u] ty #[X, Y]).run C.P w = .ok V w' ∧ Rep B D ν s' w' := by
  unfold appendS at h
  split at h
  · rename_i h0
    rw [Bool.and_eq_true] at h0
    obtain ⟨htu, h1⟩ := R.then_ok h
    have htu := beq_iff.1 htu
    subst htu
    obtain ⟨e, he, h2⟩ := R.bind_ok h1
    obtain ⟨ht, i, z, hi, _⟩ := elemS_ok he
    simp only [R.ok.injEq, Prod.mk.injEq] at h2
    obtain ⟨rfl, rfl⟩ := h2
    obtain ⟨b, d, rfl⟩ := len0_ok hy h0.1
    obtain ⟨a, n, c, rfl, hnc⟩ := room0_ok hx h0.2
    exact ⟨_, μ, w, Ext.refl _ _, hx, run_append_none w ht hi a b n c d hnc, hr⟩
  · obtain ⟨r, hr1, h2⟩ := R.bind_ok h
    unfold toO at h2
    split at h2
    · rename_i id n hv
      split at h2
      · rename_i hl
        simp only [R.ok.injEq, Prod.mk.injEq] at h2
        obtain ⟨rfl, rfl⟩ := h2
        obtain ⟨V, ν, w', q1, q2, q3, q4⟩ := appendS1_ok (ty := ty) (v := r.1) (s' := r.2) hC hr (ofO_den hx) hy (by rw [hr1])
        rw [hv] at q2
        simp only [SV.den, Option.map_eq_some_iff, if_true, Nat.sub_zero] at q2
        obtain ⟨b, hb, rfl⟩ := q2
        exact ⟨_, ν, w', q1, oslice_mk hb (liveOk_ok q4 hb hl), q3, q4⟩
      · simp at h2
    · simp at h2
/-- make([]T, l, c), where both are known. -/
def makeS (C : Cfg) (s : St) (t : TypeId) (l c : SV) : R (SV × St) := match l, c with
  | .int _ p, .int _ q => (elemS C t).bind fun e => (zeroS C e.1).bind fun z => (concrete C.F p).bind fun n => (concrete C.F q).bind fun m =>
    R.then (ile 0 n && (ile n m && (ile m 2000 && !Nat.beq z.length 0))) "make: size" (.ok (.slice s.n 0 n.toNat m.toNat false, s.new (zerosS z (m.toNat * e.2.1))))
  | _, _ => .fail "make: numbers expected"
theorem makeS_ok {C : Cfg} {B : Base} {D : Den} {μ : Mu} {s s' : St} {w : World} (hC : Ok C B D) (hr : Rep B D μ s w) {t : TypeId} {l c v : SV} {L K : Value} (hl : l.den D μ = some L) (hc : c.den D μ = some K) (h : makeS C s t l c = .ok (v, s')) :
    ∃ V ν w', Ext s s' μ ν ∧ v.den D ν = some V ∧ (Instr.makeSlice t L K).run C.P w = .ok V w' ∧ Rep B D ν s' w' := by
  unfold makeS at h
  split at h
  · rename_i kl p kc q
    obtain ⟨e, he, h1⟩ := R.bind_ok h
    obtain ⟨zs, hzs, h2⟩ := R.bind_ok h1
    obtain ⟨n, hn, h3⟩ := R.bind_ok h2
    obtain ⟨m, hm, h4⟩ := R.bind_ok h3
    obtain ⟨hb, h5⟩ := R.then_ok h4
    simp only [R.ok.injEq, Prod.mk.injEq] at h5
    obtain ⟨rfl, rfl⟩ := h5
    obtain ⟨ht, i, z, hi, hz, hsz, hby, hzz, hpos, hlt, hbb⟩ := elemS_ok he
    have hz0 : zeroS C e.1 = .ok (ofCells z.cells.toList) := by simp [zeroS, hi, hz]
    rw [hz0] at hzs
    simp only [R.ok.injEq] at hzs
    subst hzs
    simp only [Bool.and_eq_true, Bool.not_eq_true'] at hb
    have b1 := ile_iff.1 hb.1
    have b2 := ile_iff.1 hb.2.1
    have b3 := ile_iff.1 hb.2.2.1
    have b4 : (ofCells z.cells.toList).length ≠ 0 := fun e => by have := hb.2.2.2; rw [e] at this; simp at this
    simp only [SV.den, Option.some.injEq] at hl hc
    subst hl hc
    rw [concrete_ok hC.sat hn, concrete_ok hC.sat hm]
    have hY := zerosS_den (D := D) (μ := μ) (ofCells_den D μ z.cells.toList) b4 (m.toNat * e.2.1)
    obtain ⟨ν, q1, q2, q3⟩ := hr.new (rest := []) (ty := e.1) hY
    have hbytes : (i.bytes : Int) * m ≤ 281474976710656 := by
      have h1 : (i.bytes : Int) * m ≤ 1000000 * 2000 := Int.mul_le_mul (by omega) b3 (by omega) (by omega)
      omega
    refine ⟨_, ν, _, q1, by simp only [SV.den, q2]; rfl, run_make w t e.1 i z ht hi hz kl kc n m b1 b2 hbytes (by omega), ?_⟩
    have e1 : madeCells z.cells (m.toNat * i.size) = (((Array.range (m.toNat * e.2.1)).map (z.cells[· % z.cells.size]!)).toList ++ []).toArray := by
      rw [← hsz]; apply Array.ext'; simp [madeCells]
    rw [e1]
    exact q3
  · simp at h

end Go.Sym

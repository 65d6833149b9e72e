/- A region of the abstract machine tells what the machine's region does, in the text's order. -/
import Derived.Test.YtceaambiagobbaaAmEval
import Derived.Tactics
namespace Go.Proofs.Ytceaambiagobbaa.Am
open Go

/-- the world in which a function was entered, and what it was handed -/
structure Entry where
  w : World
  Z : Nat → Prop
  β : Nat → Option Loc
  m : List Box
  ro : Bool

/-- what holds of memory throughout a function -/
structure Inv (E : Entry) (w : World) (Z : Nat → Prop) (β : Nat → Option Loc) (m : List Box) : Prop where
  zok : Zok w Z
  mem : MR w Z β m (fun _ => True)
  none' : ∀ b, m.length ≤ b → β b = none
  le : E.m.length ≤ m.length
  keep : ∀ i, i < E.m.length → β i = E.β i
  size : E.w.heap.size ≤ w.heap.size
  tape : w.tape = E.w.tape
  os : w.os = E.w.os
  output : w.output = E.w.output
  old : ∀ k, k < E.w.heap.size → ¬ impBlk E.β E.m E.ro k → w.heap[k]? = E.w.heap[k]?
  zsub : ∀ k, E.Z k → Z k
  znew : ∀ k, Z k → E.Z k ∨ E.w.heap.size ≤ k ∨ impBlk E.β E.m E.ro k
  blks : ∀ b l k, E.m.length ≤ b → β b = some l → l.blk = some k → k < w.heap.size ∧ (E.w.heap.size ≤ k ∨ impBlk E.β E.m E.ro k)
  lives : ∀ i, i < E.m.length → live m i → live E.m i

/-- temporaries tell what the machine's do -/
structure FR (w : World) (Z : Nat → Prop) (β : Nat → Option Loc) (fr : List D) (a : Act) : Prop where
  size : a.tmps.size = fr.length
  defers : a.defers = []
  val : ∀ t, VD w Z β (tmpOf fr t) (a.tmps.getD t undef)

def setD (fr : List D) (dst : Option Tmp) (d : D) : List D := match dst with | some t => upd fr t d | none => fr
theorem setD_length (fr : List D) (dst : Option Tmp) (d : D) : (setD fr dst d).length = fr.length := by
  unfold setD; split
  · exact upd_length _ _ _
  · rfl
theorem tmpOf_upd (fr : List D) (t s : Nat) (d : D) : tmpOf (upd fr t d) s = if t = s ∧ t < fr.length then d else tmpOf fr s := by
  unfold tmpOf; rw [nth_upd]; split <;> rfl
theorem FR.put {w w' : World} {Z Z' : Nat → Prop} {β β' : Nat → Option Loc} {fr : List D} {a : Act} (h : FR w Z β fr a) (hm : ∀ {d : D} {y : Value}, VD w Z β d y → VD w' Z' β' d y) (dst : Option Tmp) {d : D} {v : Value} (hv : VD w' Z' β' d v) :
    FR w' Z' β' (setD fr dst d) (a.put dst v) := by
  refine ⟨?_, ?_, fun t => ?_⟩
  · rw [setD_length, ← h.size]; unfold Act.put; split <;> simp
  · unfold Act.put; split <;> exact h.defers
  · unfold setD Act.put
    cases dst with
    | none => exact hm (h.val t)
    | some s =>
      dsimp only
      rw [tmpOf_upd]
      by_cases hs : s = t ∧ s < fr.length
      · rw [if_pos hs]
        obtain ⟨rfl, hlt⟩ := hs
        rw [← h.size] at hlt
        have : (a.tmps.setIfInBounds s v).getD s undef = v := by simp [Array.getD, hlt]
        rw [this]; exact hv
      · rw [if_neg hs]
        have : (a.tmps.setIfInBounds s v).getD t undef = a.tmps.getD t undef := by
          simp only [Array.getD_eq_getD_getElem?, Array.getElem?_setIfInBounds]
          by_cases hst : s = t
          · subst hst
            have hlt : ¬ s < a.tmps.size := by rw [h.size]; exact fun e => hs ⟨rfl, e⟩
            rw [if_pos rfl, if_neg hlt, Array.getElem?_eq_none (Nat.le_of_not_lt hlt)]
          · rw [if_neg hst]
        rw [this]; exact hm (h.val t)

/-- behind an operation that meets its effect -/
theorem Inv.step {E : Entry} {w w' : World} {Z Z' : Nat → Prop} {β β' : Nat → Option Loc} {m : List Box} {e : Eff} {v : Value} (h : Inv E w Z β m) (hp : Post w Z β m e v w' Z' β') (hro : E.ro = true → ∀ b ∈ wrIds e, E.m.length ≤ b) :
    Inv E w' Z' β' (e.mem m) ∧ ∀ {d : D} {y : Value}, VD w Z β d y → VD w' Z' β' d y := by
  have hwr : ∀ k, wrBlk β m e k → k < w.heap.size ∧ (E.w.heap.size ≤ k ∨ impBlk E.β E.m E.ro k) ∧ ¬ Z k := by
    rintro k ⟨b, l, hb, ⟨z, fl, es, hlb⟩, hl, hk⟩
    obtain ⟨l', hl', _, _, hin⟩ := h.mem.box b _ trivial hlb
    rw [hl] at hl'; obtain rfl := Option.some.inj hl'
    simp only [InBlk, hk] at hin
    refine ⟨hin.2.1, ?_, hin.1⟩
    rcases Nat.lt_or_ge b E.m.length with hlt | hge
    · right
      refine ⟨?_, b, l, h.lives b hlt ⟨_, _, _, hlb⟩, by rw [← h.keep b hlt]; exact hl, hk⟩
      cases hr : E.ro with
      | false => rfl
      | true => have := hro hr b hb; omega
    · exact (h.blks b l k hge hl hk).2
  have hzz : ∀ k, Z k → k < w.heap.size ∧ ¬ wrBlk β m e k ∧ Z' k := fun k hk => ⟨h.zok k hk, fun hw => (hwr k hw).2.2 hk, hp.zsub k hk⟩
  have hmono : ∀ {d : D} {y : Value}, VD w Z β d y → VD w' Z' β' d y := fun hd => VD.mono hp.ext hzz hp.sub hd
  have hlen : (e.mem m).length = m.length + e.news.length := by simp [Eff.mem, putAll_length]
  -- a box that the operation leaves alone
  have other : ∀ b, b ∉ wrIds e → ¬ newId m e b → nth (e.mem m) b = nth m b := by
    intro b h1 h2
    simp only [Eff.mem]
    rw [nth_append, putAll_length]
    split
    · exact nth_putAll_other _ _ _ h1
    · rename_i hge
      have e1 : nth m b = none := by rw [nth_eq]; exact List.getElem?_eq_none (by omega)
      have e2 : nth e.news (b - m.length) = none := by
        rw [nth_eq]; apply List.getElem?_eq_none
        rcases Nat.lt_or_ge b (m.length + e.news.length) with q | q
        · exact absurd ⟨by omega, q⟩ h2
        · omega
      rw [e1, e2]
  have apart : ∀ b z fl es l k, b ∉ wrIds e → nth m b = some (.own z fl es) → β b = some l → l.blk = some k → ¬ wrBlk β m e k ∧ ¬ Z' k := by
    intro b z fl es l k hb hn hl hk
    have hnw : ¬ wrBlk β m e k := by
      rintro ⟨b', l', hb', hlb', hl', hk'⟩
      have := h.mem.inj b b' l l' k trivial trivial ⟨_, _, _, hn⟩ hlb' hl hl' hk hk'
      subst this; exact hb hb'
    obtain ⟨l2, hl2, _, _, hin⟩ := h.mem.box b _ trivial hn
    rw [hl] at hl2; obtain rfl := Option.some.inj hl2
    simp only [InBlk, hk] at hin
    refine ⟨hnw, fun hz => ?_⟩
    rcases hp.znew k hz with q | q | q
    · exact hin.1 q
    · have := hin.2.1; omega
    · exact hnw q
  have same : ∀ b l, β b = some l → β' b = some l := hp.sub
  -- a live box that the operation writes or makes lies in a fresh block, or in one of those that it wrote
  have mine : ∀ b l k, (b ∈ wrIds e ∨ newId m e b) → live (e.mem m) b → β' b = some l → l.blk = some k → (w.heap.size ≤ k) ∨ wrBlk β m e k := by
    intro b l k hb hlv hl hk
    by_cases hn : newId m e b
    · rcases hp.news b l k hn hl hk with q | q
      · exact .inl q.1
      · exact .inr q
    · have hb' : b ∈ wrIds e := hb.resolve_right hn
      have hlm := hp.lives b hb' hn hlv
      obtain ⟨z, fl, es, hn'⟩ := hlm
      obtain ⟨l2, hl2, _⟩ := h.mem.box b _ trivial hn'
      have := same b l2 hl2
      rw [hl] at this; obtain rfl := Option.some.inj this
      exact .inr ⟨b, l, hb', ⟨_, _, _, hn'⟩, hl2, hk⟩
  refine ⟨⟨?_, ⟨?_, ?_⟩, ?_, by rw [hlen]; have := h.le; omega, ?_, Nat.le_trans h.size hp.ext.size, hp.ext.tape.trans h.tape, hp.ext.os.trans h.os, hp.ext.output.trans h.output, ?_, fun k hk => hp.zsub k (h.zsub k hk), ?_, ?_, ?_⟩, hmono⟩
  · intro k hk
    have hs := hp.ext.size
    rcases hp.znew k hk with q | q | q
    · have := h.zok k q; omega
    · exact q.2
    · have := (hwr k q).1; omega
  · intro b x _ hx
    by_cases hb : b ∈ wrIds e ∨ newId m e b
    · exact hp.mem.box b x hb hx
    · simp only [not_or] at hb
      rw [other b hb.1 hb.2] at hx
      have h0 := h.mem.box b x trivial hx
      cases x with
      | dead => trivial
      | fz z es =>
        obtain ⟨l, hl, hc⟩ := h0
        exact ⟨l, same b l hl, hc.mono hp.ext hzz⟩
      | own z fl es =>
        obtain ⟨l, hl, h1, h2, hin⟩ := h0
        exact ⟨l, same b l hl, h1, h2, hin.mono hp.ext hzz hp.sub fun k hk => apart b z fl es l k hb.1 hx hl hk⟩
  · intro b1 b2 l1 l2 k _ _ hv1 hv2 hl1 hl2 hk1 hk2
    have key : ∀ b1 b2 l1 l2, (b1 ∈ wrIds e ∨ newId m e b1) → ¬ (b2 ∈ wrIds e ∨ newId m e b2) → live (e.mem m) b1 → live (e.mem m) b2 → β' b1 = some l1 → β' b2 = some l2 → l1.blk = some k → l2.blk = some k → False := by
      intro b1 b2 l1 l2 h1 h2 hv1 hv2 hl1 hl2 hk1 hk2
      simp only [not_or] at h2
      obtain ⟨z, fl, es, hn⟩ := hv2
      rw [other b2 h2.1 h2.2] at hn
      obtain ⟨l, hl, _, _, hin⟩ := h.mem.box b2 _ trivial hn
      have := same b2 l hl
      rw [hl2] at this; obtain rfl := Option.some.inj this
      simp only [InBlk, hk2] at hin
      rcases mine b1 l1 k h1 hv1 hl1 hk1 with q | q
      · have := hin.2.1; omega
      · exact (apart b2 z fl es _ k h2.1 hn hl hk2).1 q
    by_cases h1 : b1 ∈ wrIds e ∨ newId m e b1
    · by_cases h2 : b2 ∈ wrIds e ∨ newId m e b2
      · exact hp.mem.inj b1 b2 l1 l2 k h1 h2 hv1 hv2 hl1 hl2 hk1 hk2
      · exact (key b1 b2 l1 l2 h1 h2 hv1 hv2 hl1 hl2 hk1 hk2).elim
    · by_cases h2 : b2 ∈ wrIds e ∨ newId m e b2
      · exact (key b2 b1 l2 l1 h2 h1 hv2 hv1 hl2 hl1 hk2 hk1).elim
      · simp only [not_or] at h1 h2
        obtain ⟨z1, f1, e1, hn1⟩ := hv1
        obtain ⟨z2, f2, e2, hn2⟩ := hv2
        rw [other b1 h1.1 h1.2] at hn1
        rw [other b2 h2.1 h2.2] at hn2
        obtain ⟨q1, hq1, _⟩ := h.mem.box b1 _ trivial hn1
        obtain ⟨q2, hq2, _⟩ := h.mem.box b2 _ trivial hn2
        have e1' := same b1 q1 hq1
        have e2' := same b2 q2 hq2
        rw [hl1] at e1'; rw [hl2] at e2'
        obtain rfl := Option.some.inj e1'
        obtain rfl := Option.some.inj e2'
        exact h.mem.inj b1 b2 _ _ k trivial trivial ⟨_, _, _, hn1⟩ ⟨_, _, _, hn2⟩ hq1 hq2 hk1 hk2
  · intro b hb
    rw [hlen] at hb
    exact hp.none' b (h.none' b (by omega)) fun hn => by have := hn.2; omega
  · intro i hi
    rw [← h.keep i hi]
    have hle := h.le
    cases hβ : β i with
    | some l => exact same i l hβ
    | none => exact hp.none' i hβ fun hn => by have := hn.1; omega
  · intro k hk hni
    rw [← h.old k hk hni]
    have hs := h.size
    refine hp.ext.keep k (by omega) fun hw => ?_
    rcases (hwr k hw).2.1 with q | q
    · omega
    · exact hni q
  · intro k hk
    rcases hp.znew k hk with q | q | q
    · exact h.znew k q
    · have := h.size; exact .inr (.inl (by omega))
    · rcases (hwr k q).2.1 with p | p
      · exact .inr (.inl p)
      · exact .inr (.inr p)
  · intro b l k hb hl hk
    by_cases hn : newId m e b
    · rcases hp.news b l k hn hl hk with q | q
      · have := h.size; exact ⟨q.2, .inl (by omega)⟩
      · have := hp.ext.size; have q2 := (hwr k q); exact ⟨by omega, q2.2.1⟩
    · have hβ : β b = some l := by
        cases hβ : β b with
        | some l' => have := same b l' hβ; rw [hl] at this; exact this.symm
        | none => rw [hp.none' b hβ hn] at hl; cases hl
      have := h.blks b l k hb hβ hk
      have hs := hp.ext.size
      exact ⟨by omega, this.2⟩
  · intro i hi hlv
    have hle := h.le
    have hn : ¬ newId m e i := fun hn => by have := hn.1; omega
    by_cases hw : i ∈ wrIds e
    · exact h.lives i hi (hp.lives i hw hn hlv)
    · obtain ⟨z, fl, es, hx⟩ := hlv
      rw [other i hw hn] at hx
      exact h.lives i hi ⟨_, _, _, hx⟩

/-! ### the text's order -/
/-- is the operation done? by its guard's value -/
def Wanted (ops : Array Oper) (fr : List D) (o : Oper) (b : Bool) : Prop :=
  match o.guard with
  | none => b = true
  | some (j, want) => ∃ d, (ops[j]?).bind (·.dst) = some d ∧ ((∃ t, tmpOf fr d = dv (.bool t) ∧ b = (t == want)) ∨ (tmpOf fr d = dundef ∧ b = false))

theorem wanted_of {ops : Array Oper} {fr : List D} {o : Oper} {b : Bool} {w : World} {Z : Nat → Prop} {β : Nat → Option Loc} {a : Act} (h : Wanted ops fr o b) (hv : ∀ d j want, o.guard = some (j, want) → (ops[j]?).bind (·.dst) = some d → VD w Z β (tmpOf fr d) (a.tmps.getD d undef)) :
    Region.wanted o (yielded ops a.tmps) = b := by
  unfold Wanted at h
  unfold Region.wanted
  split at h
  · rename_i hg; simp [hg, h]
  · rename_i j want hg
    obtain ⟨d, hd, ⟨t, ht, rfl⟩ | ⟨ht, rfl⟩⟩ := h
    rotate_left
    · have := hv d j want hg hd
      rw [ht] at this
      obtain ⟨ys, he, hy⟩ := this
      obtain rfl : ys = [] := by cases ys with | nil => rfl | cons _ _ => exact hy.elim
      rw [Array.getD_eq_getD_getElem?] at he
      cases hq : a.tmps[d]? with
      | none => simp [hg, yielded, hd, hq]
      | some y =>
        rw [hq] at he
        simp at he
        subst he
        simp [hg, yielded, hd, hq]
    have := hv d j want hg hd
    rw [ht] at this
    have he : a.tmps.getD d undef = .bool t := VD.val_eq (d := dv (.bool t)) rfl this
    have hs : a.tmps[d]? = some (.bool t) := by
      rw [Array.getD_eq_getD_getElem?] at he
      cases hq : a.tmps[d]? with
      | none => rw [hq] at he; cases he
      | some y => rw [hq] at he; simp at he; rw [he]
    simp only [hg, yielded, hd, Option.bind_some, hs]
    cases t <;> cases want <;> rfl
end Go.Proofs.Ytceaambiagobbaa.Am

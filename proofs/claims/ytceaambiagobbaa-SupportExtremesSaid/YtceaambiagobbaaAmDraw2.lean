/- A region of the abstract machine tells what the machine's region does, in whatever order its edges allow: the induction. -/
import Derived.Test.YtceaambiagobbaaAmDraw
namespace Go.Proofs.Ytceaambiagobbaa.Am
open Go

section
variable {P : Program} {ops : Array Oper} {E : Entry} {st : St} {L : List Rc}

theorem put_val {w w' : World} {Z Z' : Nat → Prop} {β β' : Nat → Option Loc} {a : Act} {G G' : Nat → D} {n : Nat} (hsz : a.tmps.size = n) (h : ∀ t, VD w Z β (G t) (a.tmps.getD t undef)) (hm : ∀ {d : D} {y : Value}, VD w Z β d y → VD w' Z' β' d y) (dst : Option Tmp) {d : D} {v : Value} (hv : VD w' Z' β' d v)
    (h1 : ∀ t, dst ≠ some t → G' t = G t) (h2 : ∀ t, dst = some t → G' t = if t < n then d else dtop) : ∀ t, VD w' Z' β' (G' t) ((a.put dst v).tmps.getD t undef) := by
  intro t
  unfold Act.put
  cases dst with
  | none => rw [h1 t (by simp)]; exact hm (h t)
  | some s =>
    dsimp only
    simp only [Array.getD_eq_getD_getElem?, Array.getElem?_setIfInBounds]
    by_cases hst : s = t
    · subst hst
      rw [h2 s rfl, if_pos rfl]
      by_cases hlt : s < n
      · rw [if_pos hlt, if_pos (by rw [hsz]; exact hlt)]; exact hv
      · rw [if_neg hlt]; exact VD_top _
    · rw [if_neg hst, h1 t (by simpa using hst)]
      have := hm (h t)
      rwa [Array.getD_eq_getD_getElem?] at this

theorem fr_length (hL : AllOK P ops E.ro E.m.length true st L) : ∀ i, i ≤ L.length → (at_ st L i).fr.length = st.fr.length
  | 0, _ => rfl
  | i + 1, h => by
    obtain ⟨x, hx⟩ := nth_some (l := L) (i := i) (by omega)
    have ih := fr_length hL i (by omega)
    rw [at_self hL hx] at ih
    rw [at_succ hx]
    show (setD x.fr x.o.dst x.e.val).length = _
    rw [setD_length]; exact ih

/-- a temporary behind an operation -/
theorem after_T (hL : AllOK P ops E.ro E.m.length true st L) {j : Nat} {x : Rc} (hx : nth L j = some x) {t : Nat} (ht : x.o.dst = some t) : tmpOf (at_ st L (j + 1)).fr t = if t < st.fr.length then x.e.val else dtop := by
  have hl := fr_length hL j (by have := nth_lt hx; omega)
  rw [at_self hL hx] at hl
  have hl' : x.fr.length = st.fr.length := hl
  rw [at_succ hx]
  show tmpOf (setD x.fr x.o.dst x.e.val) t = _
  rw [ht]
  show tmpOf (upd x.fr t x.e.val) t = _
  rw [tmpOf_upd]
  by_cases hlt : t < st.fr.length
  · rw [if_pos ⟨rfl, by omega⟩, if_pos hlt]
  · rw [if_neg (by omega), if_neg hlt]
    unfold tmpOf
    have : nth x.fr t = none := by rw [nth_eq]; exact List.getElem?_eq_none (by omega)
    rw [this]; rfl

open Classical in
theorem dstep {Q : Exit → Act → World → Prop} {K : Act → World → Prop} {S : Nat → Prop} {j : Nat} {x : Rc} (hL : AllOK P ops E.ro E.m.length true st L) (hS : Closed L S) (hx : nth L j = some x) (hop : ops[j]? = some x.o) (hj : ¬ S j)
    (hr : ∀ e ∈ x.o.after, always e = true → S e.on) {a : Act} {w : World} {Z : Nat → Prop} {β : Nat → Option Loc} {pt pb : Nat → Nat} (h : DInv E st L S a w Z β pt pb)
    (hK : ∀ a' w' Z' β' pt' pb', DInv E st L (fun i => S i ∨ i = j) a' w' Z' β' pt' pb' → K a' w') : wpOp P ops Q j K a w := by
  have hself := at_self hL hx
  have hok := hL j x hx
  have hjl := nth_lt hx
  have hxm : st.m.length ≤ x.m.length := by
    have := len_mono hL j 0 (by omega)
    rw [Nat.zero_add, hself, at_zero] at this
    exact this
  -- temporaries that the operation looks at
  have hT : ∀ t, t ∈ (footOf ops x.o x.m x.e).tr → VD w Z β (tmpOf x.fr t) (a.tmps.getD t undef) := by
    intro t ht
    have := agree_T hL hS hx hj hr (h.pt_le t) (h.pt_iff t) (.inl ht)
    rw [hself] at this
    have hv := h.val t
    rwa [this] at hv
  have hB : ∀ b, (b ∈ x.e.rd ∨ b ∈ wrIds x.e ∨ newId x.m x.e b) → nth (at_ st L (pb b)).m b = nth x.m b ∧ ((at_ st L (pb b)).m.length ≤ b ↔ x.m.length ≤ b) := by
    intro b hb
    have := agree_B hL hS hx hj hr (h.pb_le b) (h.pb_iff b) hb
    rwa [hself] at this
  have hw : Region.wanted x.o (yielded ops a.tmps) = x.run := wanted_of hok.want fun d jj want hg hd => hT d (by
    have : gtOf ops x.o = [d] := by simp [gtOf, hg, hd]
    simp [footOf, this])
  have wiff : ∀ {p : Nat → Nat → Prop} {pp : Nat → Nat} {u : Nat} (_ : ∀ i, p i u → (S i ↔ i < pp u)) (_ : ¬ p j u), ∀ i, p i u → ((S i ∨ i = j) ↔ i < pp u) := by
    intro p pp u h1 h2 i hi
    rw [← h1 i hi]
    constructor
    · rintro (q | q)
      · exact q
      · subst q; exact absurd hi h2
    · exact .inl
  -- the new places in the text
  have ptn : ∃ pt' : Nat → Nat, (∀ t, pt' t ≤ L.length) ∧ (∀ t, x.o.dst = some t → pt' t = j + 1) ∧ (∀ t, x.o.dst ≠ some t → pt' t = pt t) ∧ ∀ t i, wT L i t → ((S i ∨ i = j) ↔ i < pt' t) := by
    refine ⟨fun t => if x.o.dst = some t then j + 1 else pt t, fun t => ?_, fun t ht => if_pos ht, fun t ht => if_neg ht, fun t i hi => ?_⟩
    · dsimp only; split
      · omega
      · exact h.pt_le t
    · by_cases ht : x.o.dst = some t
      · simp only [if_pos ht]
        by_cases hij : i = j
        · subst hij; simp
        · have := ord_T hL hS hx hj hr (.inr ht) hi hij
          constructor
          · rintro (q | q)
            · have := this.1 q; omega
            · exact absurd q hij
          · intro q; exact .inl (this.2 (by omega))
      · simp only [if_neg ht]
        exact wiff (p := fun i u => wT L i u) (h.pt_iff t) (fun ⟨y, hy, hd⟩ => ht (by rw [hx] at hy; cases hy; exact hd)) i hi
  have pbn : ∃ pb' : Nat → Nat, (∀ b, pb' b ≤ L.length) ∧ (∀ b, (b ∈ wrIds x.e ∨ newId x.m x.e b) → pb' b = j + 1) ∧ (∀ b, ¬ (b ∈ wrIds x.e ∨ newId x.m x.e b) → pb' b = pb b) ∧ ∀ b i, wB L i b → ((S i ∨ i = j) ↔ i < pb' b) := by
    refine ⟨fun b => if b ∈ wrIds x.e ∨ newId x.m x.e b then j + 1 else pb b, fun b => ?_, fun b hb => if_pos hb, fun b hb => if_neg hb, fun b i hi => ?_⟩
    · dsimp only; split
      · omega
      · exact h.pb_le b
    · by_cases hb : b ∈ wrIds x.e ∨ newId x.m x.e b
      · simp only [if_pos hb]
        by_cases hij : i = j
        · subst hij; simp
        · have := ord_B hL hS hx hj hr (.inr hb) hi hij
          constructor
          · rintro (q | q)
            · have := this.1 q; omega
            · exact absurd q hij
          · intro q; exact .inl (this.2 (by omega))
      · simp only [if_neg hb]
        exact wiff (p := fun i u => wB L i u) (h.pb_iff b) (fun ⟨y, hy, hd⟩ => hb (by rw [hx] at hy; cases hy; exact hd)) i hi
  obtain ⟨pt', t1, t2, t3, t4⟩ := ptn
  obtain ⟨pb', b1, b2, b3, b4⟩ := pbn
  have hG1 : ∀ t, x.o.dst ≠ some t → tmpOf (at_ st L (pt' t)).fr t = tmpOf (at_ st L (pt t)).fr t := fun t ht => by rw [t3 t ht]
  have hG2 : ∀ t, x.o.dst = some t → tmpOf (at_ st L (pt' t)).fr t = if t < st.fr.length then x.e.val else dtop := fun t ht => by rw [t2 t ht]; exact after_T hL hx ht
  have putsize : ∀ v, (a.put x.o.dst v).tmps.size = st.fr.length := fun v => by rw [← h.size]; unfold Act.put; split <;> simp
  have putdef : ∀ v, (a.put x.o.dst v).defers = [] := fun v => by unfold Act.put; split <;> exact h.defers
  unfold wpOp
  simp only [hop, hw]
  cases hrun : x.run with
  | false =>
    simp only [Bool.false_eq_true, if_false]
    have he := hok.skip hrun
    have hno : ∀ b, ¬ (b ∈ wrIds x.e ∨ newId x.m x.e b) := by
      intro b hb
      rw [he] at hb
      rcases hb with hb | hb
      · simp [wrIds] at hb
      · simp [newId] at hb; omega
    have hpb : pb' = pb := funext fun b => b3 b (hno b)
    rw [hpb] at b4
    refine hK _ _ Z β pt' pb ⟨h.le, t1, h.pb_le, t4, b4, putsize _, putdef _, ?_, h.zok, h.box, h.inj, h.none', h.keep, h.hsize, h.tape, h.os, h.output, h.old, h.zsub, h.znew, h.blks, h.lives⟩
    exact put_val h.size h.val (fun q => q) x.o.dst VD_undef hG1 (fun t ht => by rw [hG2 t ht, he])
  | true =>
    simp only [if_true]
    left
    obtain ⟨hopk, hro⟩ := hok.ok hrun
    have hlv : ∀ b, (b ∈ x.e.rd ∨ b ∈ wrIds x.e ∨ newId x.m x.e b) → (live x.m b ↔ live (at_ st L (pb b)).m b) := fun b hb => by unfold live; rw [(hB b hb).1]
    refine hopk a w Z β K Q h.zok (fun y hy => ?_) ⟨fun b y hb hy => ?_, fun b b' l l' k hb hb' hl hl' => ?_⟩ (fun b hb => ?_) fun v w' Z' β' hp => ?_
    · cases y with
      | tmp t => exact hT t (by simp only [footOf, List.mem_append]; exact .inl (tmpsOf_mem (by simpa using hy)))
      | const v => exact VD_ofVal v
      | global g => exact VD_top _
      | func f => exact VD_dv rfl
    · have hb' : b ∈ x.e.rd ∨ b ∈ wrIds x.e ∨ newId x.m x.e b := hb.imp id .inl
      exact h.box b y (by rw [(hB b hb').1]; exact hy)
    · have q1 : b ∈ x.e.rd ∨ b ∈ wrIds x.e ∨ newId x.m x.e b := hb.imp id .inl
      have q2 : b' ∈ x.e.rd ∨ b' ∈ wrIds x.e ∨ newId x.m x.e b' := hb'.imp id .inl
      exact h.inj b b' l l' k ((hlv b q1).1 hl) ((hlv b' q2).1 hl')
    · exact h.none' b ((hB b (.inr (.inr hb))).2.2 hb.1)
    · -- what the operation wrote
      have hwr : ∀ k, wrBlk β x.m x.e k → k < w.heap.size ∧ (E.w.heap.size ≤ k ∨ impBlk E.β E.m E.ro k) ∧ ¬ Z k := by
        rintro k ⟨b, l, hb, hlb, hl, hk⟩
        have hlb' := (hlv b (.inr (.inl hb))).1 hlb
        obtain ⟨z, fl, es, hn⟩ := hlb'
        obtain ⟨l', hl', _, _, hin⟩ := h.box b _ hn
        rw [hl] at hl'; obtain rfl := Option.some.inj hl'
        simp only [InBlk, hk] at hin
        refine ⟨hin.2.1, ?_, hin.1⟩
        rcases Nat.lt_or_ge b E.m.length with hlt | hge
        · right
          refine ⟨?_, b, l, h.lives b hlt ⟨_, _, _, hn⟩, by rw [← h.keep b hlt]; exact hl, hk⟩
          cases hr : E.ro with
          | false => rfl
          | true => have := hro hr b hb; omega
        · exact (h.blks b l k hge hl hk).2
      have hzz : ∀ k, Z k → k < w.heap.size ∧ ¬ wrBlk β x.m x.e k ∧ Z' k := fun k hk => ⟨h.zok k hk, fun hw => (hwr k hw).2.2 hk, hp.zsub k hk⟩
      have hmono : ∀ {d : D} {y : Value}, VD w Z β d y → VD w' Z' β' d y := fun hd => VD.mono hp.ext hzz hp.sub hd
      have same : ∀ b l, β b = some l → β' b = some l := hp.sub
      -- memory by the new places
      have mNew : ∀ b, (b ∈ wrIds x.e ∨ newId x.m x.e b) → nth (at_ st L (pb' b)).m b = nth (x.e.mem x.m) b := fun b hb => by rw [b2 b hb, at_succ hx]; rfl
      have mOld : ∀ b, ¬ (b ∈ wrIds x.e ∨ newId x.m x.e b) → at_ st L (pb' b) = at_ st L (pb b) := fun b hb => by rw [b3 b hb]
      have apart : ∀ b z fl es l k, b ∉ wrIds x.e → nth (at_ st L (pb b)).m b = some (.own z fl es) → β b = some l → l.blk = some k → ¬ wrBlk β x.m x.e k ∧ ¬ Z' k := by
        intro b z fl es l k hb hn hl hk
        have hnw : ¬ wrBlk β x.m x.e k := by
          rintro ⟨b', l', hb', hlb', hl', hk'⟩
          have := h.inj b b' l l' k ⟨_, _, _, hn⟩ ((hlv b' (.inr (.inl hb'))).1 hlb') hl hl' hk hk'
          subst this; exact hb hb'
        obtain ⟨l2, hl2, _, _, hin⟩ := h.box b _ hn
        rw [hl] at hl2; obtain rfl := Option.some.inj hl2
        simp only [InBlk, hk] at hin
        refine ⟨hnw, fun hz => ?_⟩
        rcases hp.znew k hz with q | q | q
        · exact hin.1 q
        · have := hin.2.1; omega
        · exact hnw q
      have mine : ∀ b l k, (b ∈ wrIds x.e ∨ newId x.m x.e b) → live (x.e.mem x.m) b → β' b = some l → l.blk = some k → (w.heap.size ≤ k) ∨ wrBlk β x.m x.e k := by
        intro b l k hb hlv' hl hk
        by_cases hn : newId x.m x.e b
        · rcases hp.news b l k hn hl hk with q | q
          · exact .inl q.1
          · exact .inr q
        · have hb' : b ∈ wrIds x.e := hb.resolve_right hn
          have hlm := hp.lives b hb' hn hlv'
          have hlm' := (hlv b (.inr (.inl hb'))).1 hlm
          obtain ⟨z, fl, es, hn'⟩ := hlm'
          obtain ⟨l2, hl2, _⟩ := h.box b _ hn'
          have := same b l2 hl2
          rw [hl] at this; obtain rfl := Option.some.inj this
          exact .inr ⟨b, l, hb', hlm, hl2, hk⟩
      refine hK _ _ Z' β' pt' pb' ⟨h.le, t1, b1, t4, b4, putsize _, putdef _, put_val h.size h.val hmono x.o.dst hp.val hG1 hG2, ?_, ?_, ?_, ?_, ?_, Nat.le_trans h.hsize hp.ext.size, hp.ext.tape.trans h.tape, hp.ext.os.trans h.os, hp.ext.output.trans h.output, ?_, fun k hk => hp.zsub k (h.zsub k hk), ?_, ?_, ?_⟩
      · intro k hk
        have hs := hp.ext.size
        rcases hp.znew k hk with q | q | q
        · have := h.zok k q; omega
        · exact q.2
        · have := (hwr k q).1; omega
      · intro b y hy
        by_cases hb : b ∈ wrIds x.e ∨ newId x.m x.e b
        · rw [mNew b hb] at hy; exact hp.mem.box b y hb hy
        · rw [mOld b hb] at hy
          have h0 := h.box b y hy
          cases y with
          | dead => trivial
          | fz z es =>
            obtain ⟨l, hl, hc⟩ := h0
            exact ⟨l, same b l hl, hc.mono hp.ext hzz⟩
          | own z fl es =>
            obtain ⟨l, hl, h1, h2, hin⟩ := h0
            exact ⟨l, same b l hl, h1, h2, hin.mono hp.ext hzz hp.sub fun k hk => apart b z fl es l k (fun q => hb (.inl q)) hy hl hk⟩
      · intro u1 u2 l1 l2 k hv1 hv2 hl1 hl2 hk1 hk2
        have key : ∀ u1 u2 l1 l2, (u1 ∈ wrIds x.e ∨ newId x.m x.e u1) → ¬ (u2 ∈ wrIds x.e ∨ newId x.m x.e u2) → live (at_ st L (pb' u1)).m u1 → live (at_ st L (pb' u2)).m u2 → β' u1 = some l1 → β' u2 = some l2 → l1.blk = some k → l2.blk = some k → False := by
          intro u1 u2 l1 l2 h1 h2 hv1 hv2 hl1 hl2 hk1 hk2
          rw [mOld u2 h2] at hv2
          obtain ⟨z, fl, es, hn⟩ := hv2
          obtain ⟨l, hl, _, _, hin⟩ := h.box u2 _ hn
          have := same u2 l hl
          rw [hl2] at this; obtain rfl := Option.some.inj this
          simp only [InBlk, hk2] at hin
          have hv1' : live (x.e.mem x.m) u1 := by unfold live at hv1 ⊢; rwa [mNew u1 h1] at hv1
          rcases mine u1 l1 k h1 hv1' hl1 hk1 with q | q
          · have := hin.2.1; omega
          · exact (apart u2 z fl es _ k (fun q => h2 (.inl q)) hn hl hk2).1 q
        by_cases h1 : u1 ∈ wrIds x.e ∨ newId x.m x.e u1
        · by_cases h2 : u2 ∈ wrIds x.e ∨ newId x.m x.e u2
          · have hv1' : live (x.e.mem x.m) u1 := by unfold live at hv1 ⊢; rwa [mNew u1 h1] at hv1
            have hv2' : live (x.e.mem x.m) u2 := by unfold live at hv2 ⊢; rwa [mNew u2 h2] at hv2
            exact hp.mem.inj u1 u2 l1 l2 k h1 h2 hv1' hv2' hl1 hl2 hk1 hk2
          · exact (key u1 u2 l1 l2 h1 h2 hv1 hv2 hl1 hl2 hk1 hk2).elim
        · by_cases h2 : u2 ∈ wrIds x.e ∨ newId x.m x.e u2
          · exact (key u2 u1 l2 l1 h2 h1 hv2 hv1 hl2 hl1 hk2 hk1).elim
          · rw [mOld u1 h1] at hv1
            rw [mOld u2 h2] at hv2
            obtain ⟨z1, f1, e1, hn1⟩ := hv1
            obtain ⟨z2, f2, e2, hn2⟩ := hv2
            obtain ⟨q1, hq1, _⟩ := h.box u1 _ hn1
            obtain ⟨q2, hq2, _⟩ := h.box u2 _ hn2
            have e1' := same u1 q1 hq1
            have e2' := same u2 q2 hq2
            rw [hl1] at e1'; rw [hl2] at e2'
            obtain rfl := Option.some.inj e1'
            obtain rfl := Option.some.inj e2'
            exact h.inj u1 u2 _ _ k ⟨_, _, _, hn1⟩ ⟨_, _, _, hn2⟩ hq1 hq2 hk1 hk2
      · intro b hb
        by_cases hq : b ∈ wrIds x.e ∨ newId x.m x.e b
        · rw [b2 b hq, at_succ hx] at hb
          have hb' : x.m.length + x.e.news.length ≤ b := by rw [← mem_length]; exact hb
          have hn : ¬ newId x.m x.e b := fun q => by have := q.2; omega
          have hw := hq.resolve_right hn
          exact hp.none' b (h.none' b ((hB b (.inr (.inl hw))).2.2 (by omega))) hn
        · rw [mOld b hq] at hb
          exact hp.none' b (h.none' b hb) fun q => hq (.inr q)
      · intro i hi
        rw [← h.keep i hi]
        cases hβ : β i with
        | some l => exact same i l hβ
        | none =>
          refine hp.none' i hβ fun hn => ?_
          have := hn.1; have := h.le; omega
      · intro k hk hni
        rw [← h.old k hk hni]
        have hs := h.hsize
        refine hp.ext.keep k (by omega) fun hw => ?_
        rcases (hwr k hw).2.1 with q | q
        · omega
        · exact hni q
      · intro k hk
        rcases hp.znew k hk with q | q | q
        · exact h.znew k q
        · have := h.hsize; exact .inr (.inl (by omega))
        · rcases (hwr k q).2.1 with p | p
          · exact .inr (.inl p)
          · exact .inr (.inr p)
      · intro b l k hb hl hk
        by_cases hn : newId x.m x.e b
        · rcases hp.news b l k hn hl hk with q | q
          · have := h.hsize; exact ⟨q.2, .inl (by omega)⟩
          · have := hp.ext.size; have q2 := (hwr k q); exact ⟨by omega, q2.2.1⟩
        · have hβ : β b = some l := by
            cases hβ : β b with
            | some l' => have := same b l' hβ; rw [hl] at this; exact this.symm
            | none => rw [hp.none' b hβ hn] at hl; cases hl
          have := h.blks b l k hb hβ hk
          have hs := hp.ext.size
          exact ⟨by omega, this.2⟩
      · intro i hi hlv'
        by_cases hq : i ∈ wrIds x.e ∨ newId x.m x.e i
        · have hlv2 : live (x.e.mem x.m) i := by unfold live at hlv' ⊢; rwa [mNew i hq] at hlv'
          by_cases hn : newId x.m x.e i
          · have := hn.1; have := h.le; omega
          · have hw := hq.resolve_right hn
            exact h.lives i hi ((hlv i (.inr (.inl hw))).1 (hp.lives i hw hn hlv2))
        · rw [mOld i hq] at hlv'
          exact h.lives i hi hlv'

theorem Inv.draw {w : World} {Z : Nat → Prop} {β : Nat → Option Loc} {m : List Box} (h : Inv E w Z β m) : Inv E { w with drawn := w.drawn + 1 } Z β m ∧ ∀ {d : D} {y : Value}, VD w Z β d y → VD { w with drawn := w.drawn + 1 } Z β d y := by
  have he : Ext w { w with drawn := w.drawn + 1 } (fun _ => False) := ⟨Nat.le_refl _, fun _ _ _ => rfl, rfl, rfl, rfl⟩
  have hz : ∀ k, Z k → k < w.heap.size ∧ ¬ (fun _ => False) k ∧ Z k := fun k hk => ⟨h.zok k hk, fun e => e.elim, hk⟩
  refine ⟨⟨h.zok, ⟨fun b x hb hx => ?_, h.mem.inj⟩, h.none', h.le, h.keep, h.size, h.tape, h.os, h.output, h.old, h.zsub, h.znew, h.blks, h.lives⟩, fun hd => VD.mono he hz (Sub.refl _) hd⟩
  have h0 := h.mem.box b x hb hx
  cases x with
  | dead => trivial
  | fz z es =>
    obtain ⟨l, hl, hc⟩ := h0
    exact ⟨l, hl, hc.mono he hz⟩
  | own z fl es =>
    obtain ⟨l, hl, h1, h2, hin⟩ := h0
    refine ⟨l, hl, h1, h2, hin.mono he hz (Sub.refl _) fun k hk => ⟨fun e => e.elim, ?_⟩⟩
    simp only [InBlk, hk] at hin; exact hin.1

theorem draw_any {Q : Exit → Act → World → Prop} (hL : AllOK P ops E.ro E.m.length true st L) (hmap : L.map (·.o) = ops.toList)
    (hq : ∀ a' w' Z' β', Inv E w' Z' β' (after st L).m → FR w' Z' β' (after st L).fr a' → Q .normal a' w') :
    ∀ (fuel : Nat) (listed : Array Bool) (a : Act) (w : World) (Z : Nat → Prop) (β : Nat → Option Loc) (pt pb : Nat → Nat), listed.size = ops.size → listed.toList.countP (fun b => !b) ≤ fuel →
      Closed L (fun i => listed.getD i false = true) → DInv E st L (fun i => listed.getD i false = true) a w Z β pt pb → wpAny P .any ops Q fuel listed a w := by
  have hlen : L.length = ops.size := by have := congrArg List.length hmap; simpa using this
  have hget : ∀ i x, nth L i = some x → ops[i]? = some x.o := by
    intro i x hx
    have h1 : (L.map (·.o))[i]? = some x.o := by rw [List.getElem?_map, ← nth_eq, hx]; rfl
    rw [hmap] at h1; simpa using h1
  -- when nothing can be done, all is done
  have fin : ∀ (listed : Array Bool) (a : Act) (w : World) (Z : Nat → Prop) (β : Nat → Option Loc) (pt pb : Nat → Nat), listed.size = ops.size → Region.ready .any ops listed = [] → DInv E st L (fun i => listed.getD i false = true) a w Z β pt pb → Q .normal a w := by
    intro listed a w Z β pt pb hs hr h
    have hall : ∀ n i, i < n → i < L.length → listed.getD i false = true := by
      intro n
      induction n with
      | zero => intro i hi; omega
      | succ n ih =>
        intro i hi hil
        by_cases hin : i < n
        · exact ih i hin hil
        · obtain rfl : i = n := by omega
          obtain ⟨x, hx⟩ := nth_some hil
          cases hb : listed.getD i false with
          | true => rfl
          | false =>
            exfalso
            have : i ∈ Region.ready .any ops listed := by
              rw [mem_ready]
              refine ⟨?_, x.o, hget i x hx, fun e he hbd => ?_⟩
              · simp only [Array.getD_eq_getD_getElem?] at hb ⊢
                rw [Array.getElem?_eq_getElem (by omega)] at hb ⊢
                simpa using hb
              · rw [binds_always] at hbd
                have hfree := (hL i x hx).free rfl
                have := List.all_eq_true.1 hfree.1 e (by simpa using he)
                simp only [hbd, Bool.not_true, Bool.false_or, Nat.blt_eq, List.length_take] at this
                exact ih e.on (by omega) (by omega)
            rw [hr] at this; cases this
    have hS : ∀ i, i < L.length → listed.getD i false = true := fun i hi => hall (i + 1) i (by omega) hi
    have endT : ∀ t, tmpOf (after st L).fr t = tmpOf (at_ st L (pt t)).fr t := by
      intro t
      have := still_T hL (t := t) (L.length - pt t) (pt t) (by have := h.pt_le t; omega) fun i h1 h2 hw => by
        have := (h.pt_iff t i hw).1 (hS i (by omega)); omega
      rw [show pt t + (L.length - pt t) = L.length by have := h.pt_le t; omega] at this
      unfold at_ at this
      rw [List.take_length] at this
      exact this
    have endB : ∀ b, nth (after st L).m b = nth (at_ st L (pb b)).m b ∧ ((after st L).m.length ≤ b ↔ (at_ st L (pb b)).m.length ≤ b) := by
      intro b
      have := still_B hL (b := b) (L.length - pb b) (pb b) (by have := h.pb_le b; omega) fun i h1 h2 hw => by
        have := (h.pb_iff b i hw).1 (hS i (by omega)); omega
      rw [show pb b + (L.length - pb b) = L.length by have := h.pb_le b; omega] at this
      unfold at_ at this ⊢
      rw [List.take_length] at this
      exact this
    have hlv : ∀ b, live (after st L).m b ↔ live (at_ st L (pb b)).m b := fun b => by unfold live; rw [(endB b).1]
    have hlm : st.m.length ≤ (after st L).m.length := by
      have := len_mono hL L.length 0 (by omega)
      rw [Nat.zero_add, at_zero] at this
      unfold at_ at this
      rwa [List.take_length] at this
    have hfl : (after st L).fr.length = st.fr.length := by
      have := fr_length hL L.length (Nat.le_refl _)
      unfold at_ at this
      rwa [List.take_length] at this
    exact hq a w Z β ⟨h.zok, ⟨fun b x _ hx => h.box b x (by rw [← (endB b).1]; exact hx), fun b b' l l' k _ _ h1 h2 => h.inj b b' l l' k ((hlv b).1 h1) ((hlv b').1 h2)⟩, fun b hb => h.none' b ((endB b).2.1 hb), Nat.le_trans h.le hlm, h.keep, h.hsize, h.tape, h.os, h.output, h.old, h.zsub, h.znew, h.blks, fun i hi hv => h.lives i hi ((hlv i).1 hv)⟩
      ⟨by rw [h.size, hfl], h.defers, fun t => by rw [endT t]; exact h.val t⟩
  intro fuel
  induction fuel with
  | zero =>
    intro listed a w Z β pt pb hs hc hS h
    have hr : Region.ready .any ops listed = [] := by
      rw [List.eq_nil_iff_forall_not_mem]
      intro i hi
      rw [mem_ready] at hi
      obtain ⟨h0, o, ho, _⟩ := hi
      have hlt : i < ops.size := (Array.getElem?_eq_some_iff.1 ho).1
      have hc0 : listed.toList.countP (fun b => !b) = 0 := by omega
      rw [List.countP_eq_zero] at hc0
      have := hc0 listed[i] (by simp)
      rw [Array.getD_eq_getD_getElem?, Array.getElem?_eq_getElem (by omega)] at h0
      simp at h0
      rw [h0] at this
      exact this rfl
    exact ⟨hr, fin listed a w Z β pt pb hs hr h⟩
  | succ fuel ih =>
    intro listed a w Z β pt pb hs hc hS h
    refine ⟨fun hr => fin listed a w Z β pt pb hs hr h, fun i hi => ?_⟩
    rw [mem_ready] at hi
    obtain ⟨h0, o, ho, hed⟩ := hi
    have hlt : i < ops.size := (Array.getElem?_eq_some_iff.1 ho).1
    obtain ⟨x, hx⟩ := nth_some (l := L) (i := i) (by omega)
    have hxo := hget i x hx
    rw [ho] at hxo; obtain rfl := Option.some.inj hxo
    have hlf : listed[i]'(by omega) = false := by
      rw [Array.getD_eq_getD_getElem?, Array.getElem?_eq_getElem (by omega)] at h0
      simpa using h0
    have hni : ¬ (listed.getD i false = true) := by
      rw [Array.getD_eq_getD_getElem?, Array.getElem?_eq_getElem (by omega)]
      simp [hlf]
    have hset : ∀ k, (listed.setIfInBounds i true).getD k false = true ↔ (listed.getD k false = true ∨ k = i) := by
      intro k
      simp only [Array.getD_eq_getD_getElem?, Array.getElem?_setIfInBounds]
      by_cases hk : i = k
      · subst hk
        rw [if_pos rfl, if_pos (by omega)]; simp
      · rw [if_neg hk]
        constructor
        · exact .inl
        · rintro (q | q)
          · exact q
          · exact absurd q.symm hk
    have hsetf : (fun k => (listed.setIfInBounds i true).getD k false = true) = (fun k => listed.getD k false = true ∨ k = i) := funext fun k => propext (hset k)
    refine dstep hL hS hx ho hni (fun e he ha => hed e he (by rw [binds_always]; exact ha)) h fun a' w' Z' β' pt' pb' h' => ?_
    refine ih (listed.setIfInBounds i true) a' w' Z' β' pt' pb' (by simpa using hs) ?_ ?_ (by rw [hsetf]; exact h')
    · rw [Array.toList_setIfInBounds, List.countP_set (by simpa using (by omega : i < listed.size))]
      simp only [Array.getElem_toList, hlf]
      have hpos : 0 < listed.toList.countP (fun b => !b) := by
        rw [List.countP_pos_iff]
        exact ⟨listed[i]'(by omega), by simp, by simp [hlf]⟩
      simp only [Bool.not_false, Bool.not_true, if_true, Bool.false_eq_true, if_false]
      omega
    · rw [hsetf]
      intro k y hk hy jj hb
      rcases hk with hk | hk
      · exact .inl (hS k y hk hy jj hb)
      · subst hk
        rw [hx] at hy; cases hy
        exact .inl (ready_bits hL hS hx (fun e he ha => hed e he (by rw [binds_always]; exact ha)) hb)
end
end Go.Proofs.Ytceaambiagobbaa.Am

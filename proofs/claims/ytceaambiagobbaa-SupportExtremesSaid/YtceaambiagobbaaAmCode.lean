/- The code of a function: the abstract machine tells what the machine does. -/
import Derived.Test.YtceaambiagobbaaAmDraw2
import Derived.LoopN
namespace Go.Proofs.Ytceaambiagobbaa.Am
open Go

/-! ### a region -/
theorem region_ok {P : Program} {H : Hints} {env : Env} {callF : CallF} (hcall : ∀ f args m r m', callF f args m = some (r, m') → FnOK P (H.ro f) f args m r m') (hmix : P.follows .mixedOrders = true)
    {id : Nat} {ops : Array Oper} {draw : Bool} {Ω : Type} {st : St} {K : St → Option Ω} {r : Ω} (h : runOps P H env callF ops draw ops.toList st.fr st.m [] [] K = some r)
    {E : Entry} (hn : E.m.length = env.nimp) (hro : E.ro = env.ro) {Q : Exit → Act → World → Prop} {a : Act} {w : World} {Z : Nat → Prop} {β : Nat → Option Loc} (hi : Inv E w Z β st.m) (hf : FR w Z β st.fr a)
    (hq : ∀ st' a' w' Z' β', K st' = some r → Inv E w' Z' β' st'.m → FR w' Z' β' st'.fr a' → Q .normal a' w') : (Code.region id ops draw).wp P Q a w := by
  have h0 : AllOK P ops env.ro env.nimp draw st [] := fun i x hx => by simp [nth] at hx
  obtain ⟨L, hL, hmap, hK⟩ := runOps_trace hcall h0 (rfl : after st [] = ⟨st.fr, st.m⟩) h
  simp only [List.nil_append] at hL hK
  rw [← hro, ← hn] at hL
  cases draw with
  | false =>
    refine wp_region_list ?_
    rw [← hmap]
    exact seq_ok (L := []) hL hi hf fun a' w' Z' β' h1 h2 => hq _ a' w' Z' β' hK h1 h2
  | true =>
    refine wp_region_any hmix ?_
    obtain ⟨hi', hm'⟩ := hi.draw
    have hlen : L.length = ops.size := by have := congrArg List.length hmap; simpa using this
    have hnS : ∀ i, ¬ (Array.replicate ops.size false).getD i false = true := by
      intro i hh
      rw [Array.getD_eq_getD_getElem?, Array.getElem?_replicate] at hh
      split at hh <;> simp at hh
    refine draw_any hL hmap (fun a' w' Z' β' h1 h2 => hq _ a' w' Z' β' hK h1 h2) ops.size (Array.replicate ops.size false) a _ Z β (fun _ => 0) (fun _ => 0) (by simp) ?_ ?_ ?_
    · refine Nat.le_trans List.countP_le_length ?_
      simp
    · intro i x hs
      exact absurd hs (hnS i)
    · exact {
        le := hi.le
        pt_le := fun _ => Nat.zero_le _
        pb_le := fun _ => Nat.zero_le _
        pt_iff := fun t i _ => ⟨fun hs => absurd hs (hnS i), fun hs => absurd hs (Nat.not_lt_zero _)⟩
        pb_iff := fun b i _ => ⟨fun hs => absurd hs (hnS i), fun hs => absurd hs (Nat.not_lt_zero _)⟩
        size := hf.size
        defers := hf.defers
        val := fun t => hm' (hf.val t)
        zok := hi'.zok
        box := fun b x hx => hi'.mem.box b x trivial hx
        inj := fun b b' l l' k h1 h2 => hi'.mem.inj b b' l l' k trivial trivial h1 h2
        none' := hi'.none'
        keep := hi'.keep
        hsize := hi'.size
        tape := hi'.tape
        os := hi'.os
        output := hi'.output
        old := hi'.old
        zsub := hi'.zsub
        znew := hi'.znew
        blks := hi'.blks
        lives := hi'.lives }

/-! ### renaming -/
theorem Inv.sub' {E : Entry} {w : World} {Z : Nat → Prop} {β : Nat → Option Loc} {m : List Box} (h : Inv E w Z β m) {l : List Nat} (hl : l.Nodup) (hp : ∀ i, i < E.m.length → nth l i = some i) :
    Inv E w Z (subLoc β l) (subMem m l) := by
  have hle : E.m.length ≤ l.length := by
    rcases Nat.eq_zero_or_pos E.m.length with h0 | h0
    · omega
    · have := nth_lt (hp (E.m.length - 1) (by omega)); omega
  refine ⟨h.zok, MR.subMem h.mem hl fun _ _ => trivial, ?_, by rw [subMem_length]; exact hle, ?_, h.size, h.tape, h.os, h.output, h.old, h.zsub, h.znew, ?_, ?_⟩
  · intro b hb
    rw [subMem_length] at hb
    have : nth l b = none := by rw [nth_eq]; exact List.getElem?_eq_none hb
    simp [subLoc, this]
  · intro i hi
    simp only [subLoc, hp i hi, Option.bind_some]
    exact h.keep i hi
  · intro b lo k hb hlo hk
    obtain ⟨b0, hb0, hbl⟩ := Option.bind_eq_some_iff.1 hlo
    refine h.blks b0 lo k ?_ hbl hk
    rcases Nat.lt_or_ge b0 E.m.length with q | q
    · have := nth_nodup hl hb0 (hp b0 q); omega
    · exact q
  · intro i hi hlv
    obtain ⟨z, fl, es, hx⟩ := hlv
    obtain ⟨b, hb, hx'⟩ := subMem_nth hx
    rw [hp i hi] at hb; cases hb
    obtain ⟨es', he⟩ := live_ren hx'.symm
    exact h.lives i hi ⟨_, _, _, he⟩

theorem upTo_length : ∀ n, (upTo n).length = n
  | 0 => rfl
  | n + 1 => by simp [upTo, upTo_length n]
theorem nth_upTo : ∀ (n i : Nat), i < n → nth (upTo n) i = some i
  | 0, i, h => by omega
  | n + 1, i, h => by
    simp only [upTo]
    rw [nth_append, upTo_length]
    split
    · rename_i hi; exact nth_upTo n i hi
    · rename_i hi
      obtain rfl : i = n := by omega
      simp [nth]
theorem mem_upTo : ∀ (n i : Nat), i ∈ upTo n → i < n
  | n + 1, i, h => by
    simp only [upTo, List.mem_append, List.mem_singleton] at h
    rcases h with h | h
    · have := mem_upTo n i h; omega
    · omega
theorem upTo_nodup : ∀ n, (upTo n).Nodup
  | 0 => by simp [upTo]
  | n + 1 => by
    simp only [upTo]
    rw [List.nodup_append]
    refine ⟨upTo_nodup n, by simp, ?_⟩
    intro x hx y hy
    have := mem_upTo n x hx
    simp at hy; omega
theorem reach_upTo (m : List Box) (n k : Nat) (todo : List Nat) : (reach m n todo (upTo k)).Nodup ∧ ∀ i, i < k → nth (reach m n todo (upTo k)) i = some i := by
  obtain ⟨h1, l, h2⟩ := reach_nodup m n todo (upTo k) (upTo_nodup k)
  refine ⟨h1, fun i hi => ?_⟩
  rw [h2, nth_append, upTo_length, if_pos hi]
  exact nth_upTo k i hi

/-! ### a loop's head -/
theorem Inv.nil {E : Entry} {w : World} {Z : Nat → Prop} {β : Nat → Option Loc} {m : List Box} (h : Inv E w Z β m) (z : Nat) :
    ∃ β', Inv E w Z β' (m ++ [.own z true []]) ∧ Sub β β' ∧ β' m.length = some ⟨none, z, 0, 0⟩ := by
  have hnone := h.none' m.length (Nat.le_refl _)
  have hsub : Sub β (fun b => if b = m.length then some ⟨none, z, 0, 0⟩ else β b) := by
    intro b l hb
    dsimp only
    split
    · rename_i e; subst e; rw [hnone] at hb; cases hb
    · exact hb
  have hE := h.le
  have old : ∀ b x, b ≠ m.length → nth (m ++ [Box.own z true []]) b = some x → nth m b = some x := by
    intro b x hb hx
    rw [nth_append] at hx
    split at hx
    · exact hx
    · have := nth_lt hx; simp at this; omega
  have oldL : ∀ b, b ≠ m.length → live (m ++ [Box.own z true []]) b → live m b := fun b hb ⟨z', fl, es, hx⟩ => ⟨z', fl, es, old b _ hb hx⟩
  refine ⟨_, ⟨h.zok, ⟨?_, ?_⟩, ?_, by simp; omega, ?_, h.size, h.tape, h.os, h.output, h.old, h.zsub, h.znew, ?_, ?_⟩, hsub, if_pos rfl⟩
  · intro b x _ hx
    by_cases hb : b = m.length
    · subst hb
      rw [nth_append, if_neg (by omega)] at hx
      simp [nth] at hx; subst hx
      exact ⟨_, if_pos rfl, rfl, rfl, by simp [InBlk]⟩
    · have h0 := h.mem.box b x trivial (old b x hb hx)
      cases x with
      | dead => trivial
      | fz z' es =>
        obtain ⟨l, hl, hc⟩ := h0
        exact ⟨l, hsub b l hl, hc.mono (Ext.refl w (fun _ => False)) (fun k hk => ⟨h.zok k hk, fun e => e.elim, hk⟩)⟩
      | own z' fl es =>
        obtain ⟨l, hl, h1, h2, hin⟩ := h0
        refine ⟨l, hsub b l hl, h1, h2, hin.mono (Ext.refl w (fun _ => False)) (fun k hk => ⟨h.zok k hk, fun e => e.elim, hk⟩) hsub fun k hk => ⟨fun e => e.elim, ?_⟩⟩
        simp only [InBlk, hk] at hin; exact hin.1
  · intro b b' l l' k _ _ h1 h2 hl hl' hk hk'
    try dsimp only at hl hl'
    split at hl
    · cases hl; cases hk
    · split at hl'
      · cases hl'; cases hk'
      · rename_i q1 q2
        exact h.mem.inj b b' l l' k trivial trivial (oldL b q1 h1) (oldL b' q2 h2) hl hl' hk hk'
  · intro b hb
    simp at hb
    try dsimp only
    rw [if_neg (by omega)]
    exact h.none' b (by omega)
  · intro i hi
    try dsimp only
    rw [if_neg (by omega)]
    exact h.keep i hi
  · intro b l k hb hl hk
    try dsimp only at hl
    split at hl
    · cases hl; cases hk
    · exact h.blks b l k hb hl hk
  · intro i hi hlv
    exact h.lives i hi (oldL i (by omega) hlv)

theorem FR.mono' {w : World} {Z : Nat → Prop} {β β' : Nat → Option Loc} {fr : List D} {a : Act} (hz : Zok w Z) (hs : Sub β β') (h : FR w Z β fr a) : FR w Z β' fr a :=
  ⟨h.size, h.defers, fun t => VD.mono (Ext.refl w (fun _ => False)) (fun k hk => ⟨hz k hk, fun e => e.elim, hk⟩) hs (h.val t)⟩

theorem nilSlots_ok {E : Entry} {w : World} {Z : Nat → Prop} {a : Act} : ∀ {lv : List (Nat × Option Nat)} {st : St} {β : Nat → Option Loc}, Inv E w Z β st.m → FR w Z β st.fr a →
    ∃ β', Inv E w Z β' (nilSlots lv st).m ∧ FR w Z β' (nilSlots lv st).fr a
  | [], st, β, hi, hf => ⟨β, hi, hf⟩
  | (s, none) :: r, st, β, hi, hf => nilSlots_ok (lv := r) hi hf
  | (s, some z) :: r, st, β, hi, hf => by
    simp only [nilSlots]
    split
    · rename_i hs
      obtain ⟨β', hi', hsub, hnew⟩ := hi.nil z
      refine nilSlots_ok (lv := r) hi' ?_
      have hf' := hf.mono' hi.zok hsub
      refine ⟨by rw [upd_length]; exact hf'.size, hf'.defers, fun t => ?_⟩
      dsimp only
      rw [tmpOf_upd]
      split
      · rename_i ht
        obtain ⟨rfl, _⟩ := ht
        have hv := hf.val s
        rw [hs] at hv
        have : a.tmps.getD s undef = .slice none 0 0 := VD.val_eq (d := dv (.slice none 0 0)) rfl hv
        rw [this]
        exact .inr (.fs0 _ _ hnew rfl rfl)
      · exact hf'.val t
    · exact nilSlots_ok (lv := r) hi hf

theorem putLive_ok {w : World} {Z : Nat → Prop} {β β' : Nat → Option Loc} {g : Nat → Option Nat} (hg : Ren g β β') {old : List D} {a : Act} (h : ∀ t, VD w Z β (tmpOf old t) (a.tmps.getD t undef)) :
    ∀ {lv : List (Nat × Option Nat)} {fr : List D}, (∀ t, VD w Z β' (tmpOf fr t) (a.tmps.getD t undef)) → (∀ t, VD w Z β' (tmpOf (putLive g old lv fr) t) (a.tmps.getD t undef)) ∧ (putLive g old lv fr).length = fr.length
  | [], fr, hf => ⟨hf, rfl⟩
  | (s, _) :: r, fr, hf => by
    simp only [putLive]
    have := putLive_ok hg h (lv := r) (fr := upd fr s (renD g (tmpOf old s))) (by
      intro t
      rw [tmpOf_upd]
      split
      · rename_i ht
        obtain ⟨rfl, _⟩ := ht
        exact VD.ren hg (h s)
      · exact hf t)
    rw [upd_length] at this
    exact this
theorem tops_length : ∀ fr : List D, (tops fr).length = fr.length
  | [] => rfl
  | _ :: r => by simp [tops, tops_length r]
theorem tmpOf_tops : ∀ (fr : List D) (t : Nat), tmpOf (tops fr) t = dtop
  | [], t => by simp [tops, tmpOf, nth]
  | _ :: r, 0 => by simp [tops, tmpOf, nth]
  | _ :: r, t + 1 => by
    have := tmpOf_tops r t
    simpa [tops, tmpOf, nth] using this

theorem headSt_ok {E : Entry} {w : World} {Z : Nat → Prop} {a : Act} {lv : List (Nat × Option Nat)} {st : St} {β : Nat → Option Loc} (hi : Inv E w Z β st.m) (hf : FR w Z β st.fr a) :
    ∃ β', Inv E w Z β' (headSt lv E.m.length st).m ∧ FR w Z β' (headSt lv E.m.length st).fr a := by
  obtain ⟨β1, hi1, hf1⟩ := nilSlots_ok (lv := lv) hi hf
  simp only [headSt]
  generalize nilSlots lv st = st1 at hi1 hf1
  obtain ⟨hnd, hpre⟩ := reach_upTo st1.m roundFuel E.m.length (refsUp st1.m E.m.length ++ rootsOf st1.fr lv)
  generalize reach st1.m roundFuel (refsUp st1.m E.m.length ++ rootsOf st1.fr lv) (upTo E.m.length) = acc at hnd hpre
  refine ⟨subLoc β1 acc, hi1.sub' hnd hpre, ?_⟩
  obtain ⟨h1, h2⟩ := putLive_ok (w := w) (Z := Z) (a := a) (subLoc_ren β1 acc) hf1.val (lv := lv) (fr := tops st1.fr) (fun t => by rw [tmpOf_tops]; exact VD_top _)
  exact ⟨by rw [h2, tops_length]; exact hf1.size, hf1.defers, h1⟩

/-! ### shapes of states -/
theorem decSlots_ok {Ω : Type} {r : Ω} : ∀ {ts : List (Nat × Vt)} {fr : List D} {K : SlotsT ts → Option Ω}, decSlots ts fr K = some r →
    ∃ x, K x = some r ∧ ∀ (w : World) (Z : Nat → Prop) (β : Nat → Option Loc) (g : Nat → Value), (∀ t, VD w Z β (tmpOf fr t) (g t)) → ∀ (fr' : List D), (∀ t, VD w Z β (tmpOf fr' t) (g t)) →
      (∀ t, VD w Z β (tmpOf (encSlots ts x fr') t) (g t)) ∧ (encSlots ts x fr').length = fr'.length
  | [], fr, K, h => ⟨(), h, fun _ _ _ _ _ _ hf => ⟨hf, rfl⟩⟩
  | (s, t) :: ts, fr, K, h => by
    simp only [decSlots] at h
    split at h
    · rename_i d hd
      obtain ⟨x, h, hle⟩ := Vt.dec_ok h
      obtain ⟨y, h, hrest⟩ := decSlots_ok h
      refine ⟨(x, y), h, fun w Z β g hfr fr' hf => ?_⟩
      have := hrest w Z β g hfr (upd fr' s (.s (t.enc x))) (by
        intro u
        rw [tmpOf_upd]
        split
        · rename_i hu
          obtain ⟨rfl, _⟩ := hu
          have hv := hfr s
          rw [hd] at hv
          exact hle w Z β _ hv
        · exact hf u)
      rw [upd_length] at this
      exact this
    · cases h

theorem Inv.weak {E : Entry} {w : World} {Z : Nat → Prop} {β : Nat → Option Loc} {m m' : List Box} (h : Inv E w Z β m) (k : LeMem m m') : Inv E w Z β m' :=
  ⟨h.zok, k.mr h.mem, fun b hb => h.none' b (by rw [k.length]; exact hb), by rw [← k.length]; exact h.le, h.keep, h.size, h.tape, h.os, h.output, h.old, h.zsub, h.znew, h.blks, fun i hi hl => h.lives i hi (k.live hl)⟩

theorem tmpOf_replicate (n t : Nat) : tmpOf (List.replicate n dtop) t = dtop := by
  unfold tmpOf
  rw [nth_eq, List.getElem?_replicate]
  split <;> rfl

theorem decSt_ok {Ω : Type} {t : StTy} {st : St} {K : t.T → Option Ω} {r : Ω} (h : decSt t st K = some r) :
    ∃ x, K x = some r ∧ ∀ (E : Entry) (a : Act) (w : World) (Z : Nat → Prop) (β : Nat → Option Loc), Inv E w Z β st.m → FR w Z β st.fr a → Inv E w Z β (encSt t x).m ∧ FR w Z β (encSt t x).fr a := by
  obtain ⟨hn, h⟩ := bif_none h
  rw [Nat.beq_eq] at hn
  obtain ⟨x, h, hs⟩ := decSlots_ok h
  obtain ⟨y, h, hm⟩ := decMts_ok h
  refine ⟨(x, y), h, fun E a w Z β hi hf => ⟨hi.weak hm, ?_⟩⟩
  obtain ⟨h1, h2⟩ := hs w Z β (fun u => a.tmps.getD u undef) hf.val (List.replicate t.n dtop) (fun u => by rw [tmpOf_replicate]; exact VD_top _)
  exact ⟨by show _ = (encSlots t.slots x (List.replicate t.n dtop)).length; rw [h2, hf.size, hn]; simp, hf.defers, h1⟩

theorem canonK_ok {Ω : Type} {t : StTy} {nimp : Nat} {st : St} {K : St → Option Ω} {r : Ω} (h : canonK t nimp st K = some r) :
    ∃ st', K st' = some r ∧ ∀ (E : Entry) (a : Act) (w : World) (Z : Nat → Prop) (β : Nat → Option Loc), E.m.length = nimp → Inv E w Z β st.m → FR w Z β st.fr a → ∃ β', Inv E w Z β' st'.m ∧ FR w Z β' st'.fr a := by
  obtain ⟨x, h, hx⟩ := decSt_ok h
  refine ⟨_, h, fun E a w Z β hn hi hf => ?_⟩
  subst hn
  obtain ⟨β', hi', hf'⟩ := headSt_ok (lv := liveOf t.mem t.slots) hi hf
  exact ⟨β', hx E a w Z β' hi' hf'⟩

/-! ### code -/
def exOf : Ex → Exit
  | .nrm => .normal
  | .exit j => .exit j
  | .ret => .ret
theorem sameEx_eq : ∀ {e e' : Ex}, sameEx e e' = true → e = e'
  | .nrm, .nrm, _ => rfl
  | .ret, .ret, _ => rfl
  | .exit i, .exit j, h => by rw [sameEx, Nat.beq_eq] at h; rw [h]
  | .nrm, .exit _, h => by cases h
  | .nrm, .ret, h => by cases h
  | .exit _, .nrm, h => by cases h
  | .exit _, .ret, h => by cases h
  | .ret, .nrm, h => by cases h
  | .ret, .exit _, h => by cases h

theorem canonEx_ok {nimp : Nat} {ex : Ex} {st : St} {p : Ex × St} : ∀ {l : List (Ex × StTy)}, canonEx l nimp ex st = some p →
    p.1 = ex ∧ ∀ (E : Entry) (a : Act) (w : World) (Z : Nat → Prop) (β : Nat → Option Loc), E.m.length = nimp → Inv E w Z β st.m → FR w Z β st.fr a → ∃ β', Inv E w Z β' p.2.m ∧ FR w Z β' p.2.fr a
  | [], h => by cases h
  | (e, t) :: l, h => by
    simp only [canonEx] at h
    rcases bif_some h with ⟨hc, h⟩ | ⟨_, h⟩
    · obtain ⟨st', h, hs⟩ := canonK_ok h
      cases h
      exact ⟨sameEx_eq hc, hs⟩
    · exact canonEx_ok h

theorem decEx_ok {Ω : Type} {p : Ex × St} {K : Ex → St → Option Ω} {r : Ω} : ∀ {l : List (Ex × StTy)}, decEx l p K = some r →
    ∃ st', K p.1 st' = some r ∧ ∀ (E : Entry) (a : Act) (w : World) (Z : Nat → Prop) (β : Nat → Option Loc), Inv E w Z β p.2.m → FR w Z β p.2.fr a → Inv E w Z β st'.m ∧ FR w Z β st'.fr a
  | [], h => by cases h
  | (e, t) :: l, h => by
    simp only [decEx] at h
    rcases bif_some h with ⟨hc, h⟩ | ⟨_, h⟩
    · obtain ⟨x, h, hs⟩ := decSt_ok h
      have := sameEx_eq hc; subst this
      exact ⟨_, h, hs⟩
    · exact decEx_ok h

/-- the continuation leads from every state that the machine's may be in to the answer -/
def KOK {Ω : Type} (E : Entry) (r : Ω) (K : Kont Ω) (Q : Exit → Act → World → Prop) : Prop :=
  ∀ ex st a w Z β, K ex st = some r → Inv E w Z β st.m → FR w Z β st.fr a → Q (exOf ex) a w

/-- what the abstract loop answers is what the machine's loop leads to, in at most n rounds -/
def LoopOK (P : Program) (n : Nat) (loopF : LoopF) : Prop :=
  ∀ env bid c st p, loopF env bid c st = some p → ∀ (E : Entry), E.m.length = env.nimp → E.ro = env.ro → ∀ (Q : Exit → Act → World → Prop) a w Z β, Inv E w Z β st.m → FR w Z β st.fr a →
    (∀ a' w' Z' β', Inv E w' Z' β' p.2.m → FR w' Z' β' p.2.fr a' → Q (exOf p.1) a' w') → Code.rounds P c Q n a w

theorem evalC_ok {P : Program} {H : Hints} {env : Env} {loopF : LoopF} {callF : CallF} (hmix : P.follows .mixedOrders = true) (hcall : ∀ f args m r m', callF f args m = some (r, m') → FnOK P (H.ro f) f args m r m') {n : Nat} (hloop : LoopOK P n loopF)
    {E : Entry} (hn : E.m.length = env.nimp) (hro : E.ro = env.ro) {Ω : Type} {r : Ω} : ∀ (c : Code) {bid : Nat} {st : St} {K : Kont Ω}, evalC P H env loopF callF c bid st K = some r →
      ∀ {Q : Exit → Act → World → Prop} {a : Act} {w : World} {Z : Nat → Prop} {β : Nat → Option Loc}, Inv E w Z β st.m → FR w Z β st.fr a → KOK E r K Q → c.wp P Q a w
  | .skip, bid, st, K, h, Q, a, w, Z, β, hi, hf, hk => wp_skip (hk .nrm st a w Z β h hi hf)
  | .region id ops draw, bid, st, K, h, Q, a, w, Z, β, hi, hf, hk =>
    region_ok hcall hmix h hn hro hi hf fun st' a' w' Z' β' h1 h2 h3 => hk .nrm st' a' w' Z' β' h1 h2 h3
  | .seq x y, bid, st, K, h, Q, a, w, Z, β, hi, hf, hk => by
    refine wp_seq (evalC_ok hmix hcall hloop hn hro x h hi hf ?_)
    intro ex st' a' w' Z' β' hk' hi' hf'
    cases ex with
    | nrm => exact evalC_ok hmix hcall hloop hn hro y hk' hi' hf' hk
    | exit j => exact hk (.exit j) st' a' w' Z' β' hk' hi' hf'
    | ret => exact hk .ret st' a' w' Z' β' hk' hi' hf'
  | .cond c x y, bid, st, K, h, Q, a, w, Z, β, hi, hf, hk => by
    simp only [evalC] at h
    obtain ⟨t, ht, h⟩ := Option.bind_eq_some_iff.1 h
    have hc : a.eval c = .bool t := boolOf_eq ht (VD_evalD hf.val c)
    refine wp_cond hc ?_
    cases t with
    | true => exact evalC_ok hmix hcall hloop hn hro x h hi hf hk
    | false => exact evalC_ok hmix hcall hloop hn hro y h hi hf hk
  | .block id c, bid, st, K, h, Q, a, w, Z, β, hi, hf, hk => by
    refine wp_block (evalC_ok hmix hcall hloop hn hro c h hi hf ?_)
    intro ex st' a' w' Z' β' hk' hi' hf'
    cases ex with
    | nrm => exact hk .nrm st' a' w' Z' β' hk' hi' hf'
    | exit j =>
      dsimp only at hk'
      show Exit.inBlock id Q (.exit j) a' w'
      simp only [Exit.inBlock]
      by_cases hj : j = id
      · rw [if_pos hj]
        rw [if_pos (by rw [Nat.beq_eq]; exact hj)] at hk'
        exact hk .nrm st' a' w' Z' β' hk' hi' hf'
      · rw [if_neg hj]
        rw [if_neg (by rw [Nat.beq_eq]; exact hj)] at hk'
        exact hk (.exit j) st' a' w' Z' β' hk' hi' hf'
    | ret => exact hk .ret st' a' w' Z' β' hk' hi' hf'
  | .loop c, bid, st, K, h, Q, a, w, Z, β, hi, hf, hk => by
    obtain ⟨st1, h, hs1⟩ := canonK_ok h
    obtain ⟨β1, hi1, hf1⟩ := hs1 E a w Z β hn hi hf
    obtain ⟨p, hp, h⟩ := Option.bind_eq_some_iff.1 h
    obtain ⟨st2, h, hs2⟩ := decEx_ok h
    refine wp_loop_rounds n (hloop env bid c st1 p hp E hn hro Q a w Z β1 hi1 hf1 ?_)
    intro a' w' Z' β' hi' hf'
    obtain ⟨hi2, hf2⟩ := hs2 E a' w' Z' β' hi' hf'
    exact hk p.1 st2 a' w' Z' β' h hi2 hf2
  | .exit id, bid, st, K, h, Q, a, w, Z, β, hi, hf, hk => wp_exit (hk (.exit id) st a w Z β h hi hf)
  | .ret, bid, st, K, h, Q, a, w, Z, β, hi, hf, hk => wp_ret (hk .ret st a w Z β h hi hf)
  | .rangeFunc .., _, _, _, h, _, _, _, _, _, _, _, _ => by simp [evalC] at h
  | .scope _, _, _, _, h, _, _, _, _, _, _, _, _ => by simp [evalC] at h
  | .label _, _, _, _, h, _, _, _, _, _, _, _, _ => by simp [evalC] at h
  | .goto _, _, _, _, h, _, _, _, _, _, _, _, _ => by simp [evalC] at h
  | .refuse _, _, _, _, h, _, _, _, _, _, _, _, _ => by simp [evalC] at h

theorem loop_zero {P : Program} {H : Hints} : LoopOK P 0 (lvl P H 0).1 := fun _ _ _ _ _ h => by cases h
theorem loop_succ {P : Program} {H : Hints} {n : Nat} (hmix : P.follows .mixedOrders = true) (hcall : ∀ f args m r m', (lvl P H n).2 f args m = some (r, m') → FnOK P (H.ro f) f args m r m') (hloop : LoopOK P n (lvl P H n).1) : LoopOK P (n + 1) (lvl P H (n + 1)).1 := by
  intro env bid c st p h E hn hro Q a w Z β hi hf hk
  rw [rounds_succ]
  refine evalC_ok hmix hcall hloop hn hro c h hi hf ?_
  intro ex st' a' w' Z' β' hk' hi2 hf2
  cases ex with
  | nrm =>
    obtain ⟨st1, h1, hs1⟩ := canonK_ok hk'
    obtain ⟨β1, hi1, hf1⟩ := hs1 E a' w' Z' β' hn hi2 hf2
    exact hloop env bid c st1 p h1 E hn hro Q a' w' Z' β1 hi1 hf1 hk
  | exit j =>
    obtain ⟨he, hs1⟩ := canonEx_ok hk'
    obtain ⟨β1, hi1, hf1⟩ := hs1 E a' w' Z' β' hn hi2 hf2
    have := hk a' w' Z' β1 hi1 hf1
    rw [he] at this
    exact this
  | ret =>
    obtain ⟨he, hs1⟩ := canonEx_ok hk'
    obtain ⟨β1, hi1, hf1⟩ := hs1 E a' w' Z' β' hn hi2 hf2
    have := hk a' w' Z' β1 hi1 hf1
    rw [he] at this
    exact this
end Go.Proofs.Ytceaambiagobbaa.Am

/- A call of the abstract machine tells what the machine's call does. -/
import Derived.Test.YtceaambiagobbaaAmTy
namespace Go.Proofs.Ytceaambiagobbaa.Am
open Go

/-- where the caller finds a callee's boxes -/
def backLoc (β β1 : Nat → Option Loc) (base n k b : Nat) : Option Loc := if base ≤ b ∧ b < base + n then β1 (k + (b - base)) else β b

theorem ok_call {P : Program} {H : Hints} {callF : CallF} (hcall : ∀ f args m r m', callF f args m = some (r, m') → FnOK P (H.ro f) f args m r m')
    {fr : List D} {m : List Box} {o : Oper} {f : Nat} {xs : List D} {Ω : Type} {K : Eff → Option Ω} {r : Ω} (hs : ∀ (a : Act) (w : World) (Z : Nat → Prop) (β : Nat → Option Loc), (∀ x ∈ o.op.operands, VD w Z β (evalD fr x) (a.eval x)) →
      ∃ vs : List Value, All2 (VD w Z β) xs vs ∧ ∀ fn, P.funcs[f]? = some fn → (fn.name == "runtime.NumGoroutine") = false → fn.body.isNone = false → (execOp a.eval o).run P w = .ok (.enter f vs.toArray) w)
    (hk : callK P H callF f xs m m.length K = some r) : ∃ e, K e = some r ∧ OpOK P o fr m e := by
  unfold callK at hk
  split at hk
  · rename_i fn hfn
    split at hk
    · cases hk
    rename_i hname
    simp only [Bool.or_eq_true, not_or, Bool.not_eq_true] at hname
    split at hk
    · cases hk
    rename_i ds ks hargs
    dsimp only at hk
    generalize hl : reach m roundFuel (ds.flatMap refsD) [] = l at hk
    have hlnd : l.Nodup := by rw [← hl]; exact (reach_nodup m _ _ [] (by simp)).1
    split at hk
    · cases hk
    rename_i hdisj
    have hdisj' : ∀ b ∈ l, b ∉ ks := by
      intro b hb hbk
      apply hdisj
      rw [List.any_eq_true]
      exact ⟨b, hb, has_iff.2 hbk⟩
    obtain ⟨y, my, hk, hfn'⟩ := callT_ok hcall hk
    generalize encR (H.outs f) y = rr at hk hfn'
    generalize encMts (H.mouts f) my = m' at hk hfn'
    obtain ⟨hflat, hav⟩ := args_ok hargs
    -- what both ways share
    have shared : ∀ (a : Act) (w : World) (Z : Nat → Prop) (β : Nat → Option Loc) (next : Act → World → Prop) (Q : Exit → Act → World → Prop),
        Zok w Z → (∀ x ∈ o.op.operands, VD w Z β (evalD fr x) (a.eval x)) → MR w Z β m (fun b => b ∈ l ∨ b ∈ ks) →
        (∀ v w' Z' β', FPost w (killZ Z β ks) (subLoc β l) (subMem m l) (H.ro f) rr m' v w' Z' β' → next (a.put o.dst v) w') → o.wp P a w next Q := by
      intro a w Z β next Q hZ ho hm hn
      obtain ⟨vs, hvs, hex⟩ := hs a w Z β ho
      have hbx : Boxes w Z β m ks := fun b hb x hx => hm.box b x (.inr hb) hx
      have hkl : ∀ i ∈ ks, ∃ z fl es, nth m i = some (.own z fl es) := fun i hi => by obtain ⟨z, es, he⟩ := hflat i hi; exact ⟨z, true, es, he⟩
      have hkz := killZ_lt hZ hbx hkl
      have hw := Wide.kill hZ β ks
      have hv2 := hav w Z (killZ Z β ks) β vs hw hbx InZ.kill hvs
      have hm2 : MR w (killZ Z β ks) β m (fun b => b ∈ l) := by
        constructor
        · intro b x hb hx
          have h0 := hm.box b x (.inl hb) hx
          cases x with
          | dead => trivial
          | fz z es =>
            obtain ⟨lo, hlo, hc⟩ := h0
            exact ⟨lo, hlo, hc.mono (Ext.refl w (fun _ => False)) hw.use⟩
          | own z fl es =>
            obtain ⟨lo, hlo, h1, h2, hin⟩ := h0
            refine ⟨lo, hlo, h1, h2, hin.mono (Ext.refl w (fun _ => False)) hw.use (Sub.refl _) fun k hk => ⟨fun e => e, ?_⟩⟩
            rintro (hz | ⟨b', l', hb', hl', hk'⟩)
            · simp only [InBlk, hk] at hin; exact hin.1 hz
            · obtain ⟨z', es', hb2⟩ := hflat b' hb'
              have := hm.inj b b' lo l' k (.inl hb) (.inr hb') ⟨_, _, _, hx⟩ ⟨_, _, _, hb2⟩ hlo hl' hk hk'
              subst this
              exact hdisj' b hb hb'
        · intro b b' l1 l2 k h1 h2; exact hm.inj b b' l1 l2 k (.inl h1) (.inl h2)
      have hm3 := hm2.subMem hlnd (fun b hb => hb)
      have hv3 : All2 (VD w (killZ Z β ks) (subLoc β l)) (ds.map (renD (posOf · l))) vs := All2.map_left _ (hv2.mono fun _ _ k => VD.ren (subLoc_ren β l) k)
      have hc := hfn' w (killZ Z β ks) (subLoc β l) vs hkz hv3 hm3 (by
        intro b hb
        rw [subMem_length] at hb
        have : nth l b = none := by rw [nth_eq]; exact List.getElem?_eq_none hb
        simp [subLoc, this])
      have hexe := hex fn hfn hname.1 hname.2
      unfold Oper.wp
      rw [hexe, Oper.upon_enter]
      refine hc.mono fun e w' ⟨v, Z', β', he, hp⟩ => ?_
      subst he
      exact hn v w' Z' β' hp
    -- how a callee's boxes lie in the caller's
    have hml : (subMem m l).length = l.length := subMem_length m l
    have geo : ∀ (w : World) (Z : Nat → Prop) (β : Nat → Option Loc) (v : Value) (w' : World) (Z' : Nat → Prop) (β1 : Nat → Option Loc),
        FPost w (killZ Z β ks) (subLoc β l) (subMem m l) (H.ro f) rr m' v w' Z' β1 → (∀ b, m.length ≤ b → b < m.length + (m'.length - l.length) → β b = none) →
        Ren (back l m.length) β1 (backLoc β β1 m.length (m'.length - l.length) l.length) ∧ Sub β (backLoc β β1 m.length (m'.length - l.length) l.length) := by
      intro w Z β v w' Z' β1 hp hnone
      constructor
      · intro j b lo hj hlo
        unfold back at hj
        cases hlj : nth l j with
        | some b0 =>
          simp only [hlj] at hj
          cases hj
          have hjl := nth_lt hlj
          have h1 := hp.keep j (by rw [hml]; exact hjl)
          rw [h1] at hlo
          simp only [subLoc, hlj, Option.bind_some] at hlo
          unfold backLoc
          split
          · rename_i hin
            rw [hnone b hin.1 hin.2] at hlo; cases hlo
          · exact hlo
        | none =>
          simp only [hlj] at hj
          cases hj
          have hjl : l.length ≤ j := by
            rcases Nat.lt_or_ge j l.length with h | h
            · obtain ⟨x, hx⟩ := nth_some h; rw [hx] at hlj; cases hlj
            · exact h
          have hjm : j < m'.length := by
            rcases Nat.lt_or_ge j m'.length with h | h
            · exact h
            · rw [hp.none' j h] at hlo; cases hlo
          unfold backLoc
          rw [if_pos (by omega), show l.length + (m.length + (j - l.length) - m.length) = j by omega]
          exact hlo
      · intro b lo hlo
        unfold backLoc
        split
        · rename_i hin; rw [hnone b hin.1 hin.2] at hlo; cases hlo
        · exact hlo
    split at hk
    · -- only read
      split at hk
      · rename_i hcond
        simp only [Bool.and_eq_true, Nat.beq_eq] at hcond
        obtain ⟨⟨hnf, hlen⟩, hro⟩ := hcond
        rw [if_pos hro] at hk
        have hnews : (m'.drop l.length).map (fun x => renBox (back l m.length) (some x)) = [] := by rw [List.drop_eq_nil_of_le (by omega)]; rfl
        rw [hnews] at hk
        refine ⟨_, hk, ?_⟩
        intro a w Z β next Q hZ ho hm hnone hn
        refine shared a w Z β next Q hZ ho ⟨fun b x hb hx => hm.box b x (.inl (List.mem_append.2 hb)) hx, fun b b' l1 l2 k h1 h2 => hm.inj b b' l1 l2 k (.inl (List.mem_append.2 h1)) (.inl (List.mem_append.2 h2))⟩ fun v w' Z' β1 hp => ?_
        have hext : Ext w w' (fun _ => False) := hp.ext.weak fun k _ h => by have := h.1; rw [hro] at this; cases this
        have hnf' : noFr (renD (back l m.length) rr) = true := by
          cases rr with
          | s d =>
            cases d with
            | one d => cases d <;> first | exact hnf | simp [noFr, D0.cells, noFrL, noFr1] at hnf
            | agg cl ds =>
              cases cl with
              | true => exact hnf
              | false =>
                show noFrL (renL (back l m.length) ds) = true
                have : ∀ (l' : List D1), noFrL l' = true → renL (back l m.length) l' = l' := by
                  intro l'
                  induction l' with
                  | nil => intro _; rfl
                  | cons d r ih =>
                    intro h
                    simp only [noFrL, Bool.and_eq_true] at h
                    simp only [renL, ih h.2]
                    cases d <;> first | rfl | simp [noFr1] at h
                rw [this ds hnf]; exact hnf
          | tup ds =>
            simp only [renD, noFr, List.all_map, List.all_eq_true] at hnf ⊢
            intro d hd
            have hd' := hnf d hd
            show noFrL (ren0 (back l m.length) d).cells = true
            cases d with
            | one d => cases d <;> first | exact hd' | simp [D0.cells, noFrL, noFr1] at hd'
            | agg cl ds' =>
              cases cl with
              | true => exact hd'
              | false =>
                show noFrL (renL (back l m.length) ds') = true
                have : ∀ (l' : List D1), noFrL l' = true → renL (back l m.length) l' = l' := by
                  intro l'
                  induction l' with
                  | nil => intro _; rfl
                  | cons d r ih =>
                    intro h
                    simp only [noFrL, Bool.and_eq_true] at h
                    simp only [renL, ih h.2]
                    cases d <;> first | rfl | simp [noFr1] at h
                rw [this ds' hd']; exact hd'
        have hval : VD w' Z β (renD (back l m.length) rr) v := by
          have h0 := VD.ren (w := w') (Z := Z') (β := β1) (β' := fun b => β1 b |>.or none) (g := fun j => some j) (by intro j b lo hj hlo; cases hj; simp [hlo]) hp.val
          have h1 : Ren (back l m.length) β1 (backLoc β β1 m.length (m'.length - l.length) l.length) := (geo w Z β v w' Z' β1 hp (fun b h1 h2 => by omega)).1
          exact noFr_ok hnf' (VD.ren h1 hp.val)
        have hno : ∀ b, ¬ (b ∈ wrIds { val := renD (back l m.length) rr, rd := l ++ ks, wr := [], news := [] } ∨ newId m { val := renD (back l m.length) rr, rd := l ++ ks, wr := [], news := [] } b) := by
          intro b hb
          rcases hb with hb | hb
          · simp [wrIds] at hb
          · simp [newId] at hb; omega
        exact hn v w' Z β ⟨hval, hext.weak fun _ _ h => h.elim, Sub.refl _, fun b hb _ => hb, fun b _ _ hb => absurd (.inr hb) (hno b), fun _ h => h, fun _ h => .inl h, ⟨fun b _ hb => absurd hb (hno b), fun b _ _ _ _ hb => absurd hb (hno b)⟩, fun b hb => absurd (.inl hb) (hno b)⟩
      · cases hk
    · -- boxes come back
      refine ⟨_, hk, ?_⟩
      intro a w Z β next Q hZ ho hm hnone hn
      refine shared a w Z β next Q hZ ho ⟨fun b x hb hx => hm.box b x (.inl (List.mem_append.2 hb)) hx, fun b b' l1 l2 k h1 h2 => hm.inj b b' l1 l2 k (.inl (List.mem_append.2 h1)) (.inl (List.mem_append.2 h2))⟩ fun v w' Z' β1 hp => ?_
      have hlm : l.length ≤ m'.length := by have := hp.len; rwa [hml] at this
      have hnl : ((m'.drop l.length).map fun x => renBox (back l m.length) (some x)).length = m'.length - l.length := by simp
      have hnone' : ∀ b, m.length ≤ b → b < m.length + (m'.length - l.length) → β b = none := fun b h1 h2 => hnone b ⟨h1, by show b < _ + List.length _; rw [hnl]; exact h2⟩
      obtain ⟨hren, hsub⟩ := geo w Z β v w' Z' β1 hp hnone'
      generalize hβ' : backLoc β β1 m.length (m'.length - l.length) l.length = β' at hren hsub
      -- the boxes that are written
      have hwr : wrIds { val := renD (back l m.length) rr, rd := l ++ ks, wr := (if H.ro f then [] else zipWr (back l m.length) l m') ++ killed ks, news := (m'.drop l.length).map fun x => renBox (back l m.length) (some x) } = (if H.ro f then [] else l) ++ ks := by
        simp only [wrIds, List.map_append, killed_ids]
        cases H.ro f
        · simp [zipWr_ids _ hlm]
        · simp
      have hblk : ∀ k, impBlk (subLoc β l) (subMem m l) (H.ro f) k → ∃ b lo, b ∈ (if H.ro f then [] else l) ++ ks ∧ live m b ∧ β b = some lo ∧ lo.blk = some k := by
        rintro k ⟨hro, i, lo, ⟨z0, f0, e0, hli⟩, hlo, hk⟩
        simp only [subLoc] at hlo
        obtain ⟨b, hb, hbl⟩ := Option.bind_eq_some_iff.1 hlo
        have hlb : live m b := by
          obtain ⟨b', hb', hx⟩ := subMem_nth hli
          rw [hb] at hb'; obtain rfl := Option.some.inj hb'
          obtain ⟨es', he⟩ := live_ren hx.symm
          exact ⟨_, _, _, he⟩
        refine ⟨b, lo, ?_, hlb, hbl, hk⟩
        rw [hro]
        exact List.mem_append.2 (.inl (List.mem_of_getElem? (by rw [← nth_eq]; exact hb)))
      have hblk' : ∀ k, impBlk (subLoc β l) (subMem m l) (H.ro f) k → wrBlk β m { val := renD (back l m.length) rr, rd := l ++ ks, wr := (if H.ro f then [] else zipWr (back l m.length) l m') ++ killed ks, news := (m'.drop l.length).map fun x => renBox (back l m.length) (some x) } k := by
        intro k hk
        obtain ⟨b, lo, h1, h2, h3⟩ := hblk k hk
        exact ⟨b, lo, by rw [hwr]; exact h1, h2, h3⟩
      -- what they hold
      have hlive : ∀ b ∈ l, b < m.length ∨ nth m b = none := fun b _ => by
        rcases Nat.lt_or_ge b m.length with h | h
        · exact .inl h
        · right; rw [nth_eq]; exact List.getElem?_eq_none h
      have hmemN : ∀ b, newId m { val := renD (back l m.length) rr, rd := l ++ ks, wr := (if H.ro f then [] else zipWr (back l m.length) l m') ++ killed ks, news := (m'.drop l.length).map fun x => renBox (back l m.length) (some x) } b →
          ∀ x, nth (Eff.mem { val := renD (back l m.length) rr, rd := l ++ ks, wr := (if H.ro f then [] else zipWr (back l m.length) l m') ++ killed ks, news := (m'.drop l.length).map fun x => renBox (back l m.length) (some x) } m) b = some x →
            ∃ j y, nth m' j = some y ∧ l.length ≤ j ∧ b = m.length + (j - l.length) ∧ x = renBox (back l m.length) (some y) := by
        rintro b ⟨h1, h2⟩ x hx
        simp only [Eff.mem] at hx
        rw [nth_append, putAll_length, if_neg (by omega), nth_map, nth_drop] at hx
        obtain ⟨y, hy, rfl⟩ := Option.map_eq_some_iff.1 hx
        exact ⟨_, y, hy, by omega, by omega, rfl⟩
      have hmemW : ∀ b, b ∈ (if H.ro f then [] else l) ++ ks →
          ∀ x, nth (Eff.mem { val := renD (back l m.length) rr, rd := l ++ ks, wr := (if H.ro f then [] else zipWr (back l m.length) l m') ++ killed ks, news := (m'.drop l.length).map fun x => renBox (back l m.length) (some x) } m) b = some x →
            x = .dead ∨ (newId m { val := renD (back l m.length) rr, rd := l ++ ks, wr := (if H.ro f then [] else zipWr (back l m.length) l m') ++ killed ks, news := (m'.drop l.length).map fun x => renBox (back l m.length) (some x) } b) ∨
            (H.ro f = false ∧ ∃ i y, nth l i = some b ∧ nth m' i = some y ∧ x = renBox (back l m.length) (some y)) := by
        intro b hb x hx
        simp only [Eff.mem] at hx
        rw [nth_append, putAll_length] at hx
        split at hx
        · rename_i hlt
          rw [putAll_append] at hx
          by_cases hbk : b ∈ ks
          · rw [nth_putAll_killed ks _ b (by rw [putAll_length]; exact hlt) (.inl hbk)] at hx
            cases hx; exact .inl rfl
          · rw [nth_putAll_other _ _ _ (by rw [killed_ids]; exact hbk)] at hx
            rcases List.mem_append.1 hb with hb | hb
            · cases hro : H.ro f with
              | true => rw [hro] at hb; cases hb
              | false =>
                rw [hro] at hb hx
                simp only [Bool.false_eq_true, if_false] at hb hx
                obtain ⟨i, hi⟩ := List.mem_iff_getElem?.1 hb
                rw [← nth_eq] at hi
                obtain ⟨y, hy⟩ := nth_some (l := m') (i := i) (by have := nth_lt hi; omega)
                rw [nth_putAll_zip _ hlnd hlm hi hy hlt] at hx
                cases hx
                exact .inr (.inr ⟨rfl, i, y, hi, hy, rfl⟩)
            · exact absurd hb hbk
        · rename_i hge
          right; left
          have h3 : b - m.length < ((m'.drop l.length).map fun x => renBox (back l m.length) (some x)).length := nth_lt hx
          refine ⟨by omega, ?_⟩
          show b < m.length + ((m'.drop l.length).map fun x => renBox (back l m.length) (some x)).length
          omega
      have hidx : ∀ b x, (b ∈ (if H.ro f then [] else l) ++ ks ∨ newId m { val := renD (back l m.length) rr, rd := l ++ ks, wr := (if H.ro f then [] else zipWr (back l m.length) l m') ++ killed ks, news := (m'.drop l.length).map fun x => renBox (back l m.length) (some x) } b) →
          nth (Eff.mem { val := renD (back l m.length) rr, rd := l ++ ks, wr := (if H.ro f then [] else zipWr (back l m.length) l m') ++ killed ks, news := (m'.drop l.length).map fun x => renBox (back l m.length) (some x) } m) b = some x →
            x = .dead ∨ ∃ j y, nth m' j = some y ∧ back l m.length j = some b ∧ x = renBox (back l m.length) (some y) := by
        intro b x hb hx
        have new : newId m { val := renD (back l m.length) rr, rd := l ++ ks, wr := (if H.ro f then [] else zipWr (back l m.length) l m') ++ killed ks, news := (m'.drop l.length).map fun x => renBox (back l m.length) (some x) } b → x = .dead ∨ ∃ j y, nth m' j = some y ∧ back l m.length j = some b ∧ x = renBox (back l m.length) (some y) := by
          intro hn
          obtain ⟨j, y, hy, hj, hbj, hxy⟩ := hmemN b hn x hx
          refine .inr ⟨j, y, hy, ?_, hxy⟩
          have : nth l j = none := by rw [nth_eq]; exact List.getElem?_eq_none hj
          simp only [back, this, hbj]
        rcases hb with hb | hb
        · rcases hmemW b hb x hx with h | h | ⟨_, i, y, hi, hy, hxy⟩
          · exact .inl h
          · exact new h
          · exact .inr ⟨i, y, hy, by simp only [back, hi], hxy⟩
        · exact new hb
      refine hn v w' Z' β' ⟨VD.ren hren hp.val, hp.ext.weak fun k _ => hblk' k, hsub, ?_, ?_, fun k hk => hp.zsub k (.inl hk), ?_, ⟨?_, ?_⟩, ?_⟩
      · intro b hb hne
        rw [← hβ']; unfold backLoc
        rw [if_neg]; exact hb
        intro hin; exact hne ⟨hin.1, by show b < m.length + List.length _; rw [hnl]; exact hin.2⟩
      · rintro b lo k ⟨h1, h2⟩ hlo hk
        have h2' : b < m.length + (m'.length - l.length) := by
          have : b < m.length + List.length ((m'.drop l.length).map fun x => renBox (back l m.length) (some x)) := h2
          rwa [hnl] at this
        rw [← hβ'] at hlo; unfold backLoc at hlo
        rw [if_pos ⟨h1, h2'⟩] at hlo
        rcases hp.blks _ lo k (by rw [hml]; omega) hlo hk with h | h
        · exact .inl h
        · exact .inr (hblk' k h)
      · intro k hk
        rcases hp.znew k hk with (h | ⟨b, lo, hb, hlo, hkb⟩) | h | h
        · exact .inl h
        · exact .inr (.inr ⟨b, lo, by rw [hwr]; exact List.mem_append.2 (.inr hb), hflat.live b hb, hlo, hkb⟩)
        · exact .inr (.inl h)
        · exact .inr (.inr (hblk' k h))
      · intro b x hb hx
        rw [hwr] at hb
        rcases hidx b x hb hx with rfl | ⟨j, y, hy, hj, rfl⟩
        · trivial
        · exact (hp.mem.box j y trivial hy).ren hren hj
      · intro b1 b2 l1 l2 k h1 h2 hli1 hli2 hl1 hl2 hk1 hk2
        rw [hwr] at h1 h2
        obtain ⟨z1, f1, e1, hx1⟩ := hli1
        obtain ⟨z2, f2, e2, hx2⟩ := hli2
        rcases hidx b1 _ h1 hx1 with h | ⟨j1, y1, hy1, hj1, he1⟩
        · cases h
        rcases hidx b2 _ h2 hx2 with h | ⟨j2, y2, hy2, hj2, he2⟩
        · cases h
        obtain ⟨es1, hm1⟩ := live_ren he1.symm
        obtain ⟨es2, hm2⟩ := live_ren he2.symm
        cases hm1; cases hm2
        obtain ⟨q1, hq1, _⟩ := hp.mem.box j1 _ trivial hy1
        obtain ⟨q2, hq2, _⟩ := hp.mem.box j2 _ trivial hy2
        have e1' := hren j1 b1 q1 hj1 hq1
        have e2' := hren j2 b2 q2 hj2 hq2
        rw [hl1] at e1'; rw [hl2] at e2'
        obtain rfl := Option.some.inj e1'
        obtain rfl := Option.some.inj e2'
        have := hp.mem.inj j1 j2 _ _ k trivial trivial ⟨_, _, _, hy1⟩ ⟨_, _, _, hy2⟩ hq1 hq2 hk1 hk2
        subst this
        rw [hj1] at hj2; exact Option.some.inj hj2
      · intro b hb hne hlb
        rw [hwr] at hb
        obtain ⟨z0, f0, e0, hx⟩ := hlb
        rcases hmemW b hb _ hx with h | h | ⟨_, i, y, hi, hy, hxy⟩
        · cases h
        · exact absurd h hne
        · obtain ⟨es', he⟩ := live_ren hxy.symm
          cases he
          obtain ⟨z1, f1, e1, hs1⟩ := hp.lives i (by rw [hml]; exact nth_lt hi) ⟨_, _, _, hy⟩
          obtain ⟨b', hb', hx'⟩ := subMem_nth hs1
          rw [hi] at hb'; obtain rfl := Option.some.inj hb'
          obtain ⟨es2, he2⟩ := live_ren hx'.symm
          exact ⟨_, _, _, he2⟩
  · cases hk
end Go.Proofs.Ytceaambiagobbaa.Am

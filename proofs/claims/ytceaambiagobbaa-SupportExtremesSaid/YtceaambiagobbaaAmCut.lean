/- Each operation of the abstract machine tells what the machine's operation does: lengths and slicing. -/
import Derived.Test.YtceaambiagobbaaAmLit
namespace Go.Proofs.Ytceaambiagobbaa.Am
open Go

theorem elems_len {w : World} {Z : Nat → Prop} {β : Nat → Option Loc} {m : List Box} {d : D} {b zo : Option Nat} {fl : Bool} {es : List (List D1)} {y : Value}
    (h : elems? m d = some (b, zo, fl, es)) (hb : Boxes w Z β m b.toList) (hv : VD w Z β d y) : ∃ a c, y = .slice a es.length c := by
  cases zo with
  | none =>
    rcases src_ok (size := 0) h rfl hb hv with ⟨rfl, a, c, rfl⟩ | ⟨k, o, cap, g, rfl, _⟩
    · exact ⟨_, _, rfl⟩
    · exact ⟨_, _, rfl⟩
  | some z =>
    rcases src_ok (size := z) h (by simp [fits]) hb hv with ⟨rfl, a, c, rfl⟩ | ⟨k, o, cap, g, rfl, _⟩
    · exact ⟨_, _, rfl⟩
    · exact ⟨_, _, rfl⟩

theorem ok_len {P : Program} {fr : List D} {m : List Box} {o : Oper} {t e : TypeId} {x : Operand} {b zo : Option Nat} {fl : Bool} {es : List (List D1)}
    (h : o.op = .call { callee := .builtin .len, args := #[x], argTypes := #[t] }) (hd : desc P t = some (.slice e)) (hx : elems? m (evalD fr x) = some (b, zo, fl, es)) :
    OpOK P o fr m { val := dv (.int .i64 (es.length : Nat)), rd := b.toList } := by
  refine ok_val fun a w Z β ho hm => ?_
  obtain ⟨ad, c, hv⟩ := elems_len hx (fun i hi y hy => hm.box i y hi hy) (ho x (by simp [h, Op.operands, Call.operands]))
  refine ⟨_, ?_, VD_dv rfl⟩
  simp [execOp, h, resolve, invoke, builtin, Builtin.len_, run_und hd, hv, goInt]

theorem loOf_eq {w : World} {Z : Nat → Prop} {β : Nat → Option Loc} {fr : List D} {a : Act} {lo : Option Operand} {l : Int} (h : loOf (lo.map (evalD fr)) = some l) (ho : ∀ x, lo = some x → VD w Z β (evalD fr x) (a.eval x)) :
    (lo = none ∧ l = 0) ∨ ∃ x k, lo = some x ∧ a.eval x = .int k l := by
  cases lo with
  | none => simp [loOf] at h; exact .inl ⟨rfl, h.symm⟩
  | some x =>
    simp only [Option.map_some, loOf] at h
    split at h
    · rename_i k i hi
      cases h
      exact .inr ⟨x, k, rfl, anyInt_eq hi (ho x rfl)⟩
    · cases h
theorem hiOf_eq {w : World} {Z : Nat → Prop} {β : Nat → Option Loc} {fr : List D} {a : Act} {n : Nat} {hi : Option Operand} {l : Int} (h : hiOf n (hi.map (evalD fr)) = some l) (ho : ∀ x, hi = some x → VD w Z β (evalD fr x) (a.eval x)) :
    (hi = none ∧ l = n) ∨ ∃ x k, hi = some x ∧ a.eval x = .int k l := by
  cases hi with
  | none => simp [hiOf] at h; exact .inl ⟨rfl, h.symm⟩
  | some x =>
    simp only [Option.map_some, hiOf] at h
    split at h
    · rename_i k i hi
      cases h
      exact .inr ⟨x, k, rfl, anyInt_eq hi (ho x rfl)⟩
    · cases h

theorem bounds_run {P : Program} {w : World} {a : Act} {isSlice : Bool} {n cap : Nat} {lo hi : Option Operand} {l h : Int} (hl : (lo = none ∧ l = 0) ∨ ∃ x k, lo = some x ∧ a.eval x = .int k l) (hh : (hi = none ∧ h = n) ∨ ∃ x k, hi = some x ∧ a.eval x = .int k h)
    (h0 : 0 ≤ l) (h1 : l ≤ h) (h2 : h ≤ cap) : (Instr.sliceBounds isSlice n cap (lo.map a.eval) (hi.map a.eval) none).run P w = .ok (l.toNat, h.toNat, cap) w := by
  have e1 : 0 ≤ h := by omega
  rcases hl with ⟨rfl, rfl⟩ | ⟨x, k, rfl, hx⟩
  · rcases hh with ⟨rfl, rfl⟩ | ⟨y, k', rfl, hy⟩
    · simp [Instr.sliceBounds]
    · simp [Instr.sliceBounds, Instr.sliceBound, asIntOf, hy, e1, h2]
  · rcases hh with ⟨rfl, rfl⟩ | ⟨y, k', rfl, hy⟩
    · simp [Instr.sliceBounds, Instr.sliceBound, asIntOf, hx, h0]
      omega
    · simp [Instr.sliceBounds, Instr.sliceBound, asIntOf, hx, hy, h0, e1, h2]
      intro hc; omega

theorem ok_slice {P : Program} {fr : List D} {m : List Box} {o : Oper} {t : TypeId} {x : Operand} {lo hi : Option Operand} {Ω : Type} {K : Eff → Option Ω} {r : Ω} (h : o.op = .slice t x lo hi none)
    (hk : sliceK P t (evalD fr x) (lo.map (evalD fr)) (hi.map (evalD fr)) K = some r) : ∃ e, K e = some r ∧ OpOK P o fr m e := by
  have hops : o.op.operands = #[x] ++ lo.toArray ++ hi.toArray := by simp [h, Op.operands]
  unfold sliceK at hk
  split at hk
  · rename_i elem z es hd hx
    split at hk
    · cases hk
    rename_i ti hti
    split at hk
    · cases hk
    rename_i hz
    have hz' : z = ti.size := by simpa using hz
    obtain ⟨l, hl, hk⟩ := Option.bind_eq_some_iff.1 hk
    obtain ⟨hh, hhe, hk⟩ := Option.bind_eq_some_iff.1 hk
    cases hc : decide (0 ≤ l) && decide (l ≤ hh) && decide (hh ≤ (es.length : Int)) with
    | false => rw [hc] at hk; cases hk
    | true =>
    rw [hc] at hk
    simp only [Bool.and_eq_true, decide_eq_true_eq] at hc
    obtain ⟨⟨c1, c2⟩, c3⟩ := hc
    refine ⟨_, hk, ok_val fun a w Z β ho _ => ?_⟩
    have hl' := loOf_eq hl (a := a) (w := w) (Z := Z) (β := β) fun y hy => ho y (by rw [hops, hy]; simp)
    have hh' := hiOf_eq hhe (a := a) (w := w) (Z := Z) (β := β) fun y hy => ho y (by rw [hops, hy]; simp)
    have hv := ho x (by rw [hops]; simp)
    rw [hx] at hv
    rcases hv with hv | hv
    · cases hv
    generalize hy : a.eval x = y at hv
    cases hv with
    | c hv =>
      cases hv with
      | fr0 _ ad cap =>
        have hh0 : hh = 0 := by simp at c3; omega
        have hl0 : l = 0 := by omega
        subst hh0; subst hl0
        have hb := bounds_run (P := P) (w := w) (a := a) (isSlice := true) (n := 0) (cap := cap) hl' hh' (by omega) (by omega) (by omega)
        refine ⟨.slice (if cap = 0 then ad else ad.map (·.add (0 * ti.size))) 0 (cap - 0), ?_, .inr (.c ?_)⟩
        · have hsl : (Instr.sliceAt t (.slice ad 0 cap) (lo.map a.eval) (hi.map a.eval) none).run P w = .ok (.slice (if cap = 0 then ad else ad.map (·.add (0 * ti.size))) 0 (cap - 0)) w := by
            simp only [Instr.sliceAt, Sem.run_bind, run_und hd, Result.andThen_ok, Instr.slice, hb, run_size hti, Sem.run_pure]
            simp
          simp [execOp, h, hy, hsl]
        · simpa using C1.fr0 z _ _
      | fr _ _ k ob cap g hzz hcap h1 h2 h3 =>
        have hb := bounds_run (P := P) (w := w) (a := a) (isSlice := true) (n := es.length) (cap := cap) hl' hh' c1 c2 (by omega)
        have hsl : (Instr.sliceAt t (.slice (some ⟨k, ob, none⟩) es.length cap) (lo.map a.eval) (hi.map a.eval) none).run P w =
            .ok (.slice (if cap = l.toNat then some ⟨k, ob, none⟩ else some ⟨k, ob + l.toNat * ti.size, none⟩) (hh.toNat - l.toNat) (cap - l.toNat)) w := by
          simp only [Instr.sliceAt, Sem.run_bind, run_und hd, Result.andThen_ok, Instr.slice, hb, run_size hti, Sem.run_pure]
          simp [add_none]
        refine ⟨_, by simp [execOp, h, hy, hsl]; rfl, .inr (.c ?_)⟩
        have hlen : ((es.take hh.toNat).drop l.toNat).length = hh.toNat - l.toNat := by simp; omega
        by_cases hcl : cap = l.toNat
        · have he : (es.take hh.toNat).drop l.toNat = [] := List.eq_nil_of_length_eq_zero (by rw [hlen]; omega)
          rw [he, show hh.toNat - l.toNat = 0 by omega]
          exact .fr0 _ _ _
        · rw [if_neg hcl, ← hlen]
          refine .fr z _ k (ob + l.toNat * ti.size) _ (fun i j => g (l.toNat + i) j) hzz (by rw [hlen]; omega) ?_ ?_ ?_
          · intro i cs hi
            rw [nth_drop] at hi
            exact h1 _ cs (nth_take_lt hi)
          · intro i j hi hj
            rw [hlen] at hi
            have := h2 (l.toNat + i) j (by omega) hj
            rw [← hz']
            rwa [show ob + l.toNat * z + i * z + j = ob + (l.toNat + i) * z + j by rw [Nat.add_mul]; omega]
          · intro i cs j d hi hj
            rw [nth_drop] at hi
            exact h3 _ cs j d (nth_take_lt hi) hj
  · rename_i s hd hx
    obtain ⟨l, hl, hk⟩ := Option.bind_eq_some_iff.1 hk
    obtain ⟨hh, hhe, hk⟩ := Option.bind_eq_some_iff.1 hk
    cases hc : decide (0 ≤ l) && decide (l ≤ hh) && decide (hh ≤ (s.size : Int)) with
    | false => rw [hc] at hk; cases hk
    | true =>
    rw [hc] at hk
    simp only [Bool.and_eq_true, decide_eq_true_eq] at hc
    obtain ⟨⟨c1, c2⟩, c3⟩ := hc
    refine ⟨_, hk, ok_val fun a w Z β ho _ => ⟨_, ?_, VD_dv rfl⟩⟩
    have hl' := loOf_eq hl (a := a) (w := w) (Z := Z) (β := β) fun y hy => ho y (by rw [hops, hy]; simp)
    have hh' := hiOf_eq hhe (a := a) (w := w) (Z := Z) (β := β) fun y hy => ho y (by rw [hops, hy]; simp)
    have hv : a.eval x = .string s := VD.val_eq (d := evalD fr x) (by rw [hx]; rfl) (ho x (by rw [hops]; simp))
    have hb := bounds_run (P := P) (w := w) (a := a) (isSlice := false) (n := s.size) (cap := s.size) hl' hh' c1 c2 c3
    have hsl : (Instr.sliceAt t (.string s) (lo.map a.eval) (hi.map a.eval) none).run P w = .ok (.string (s.extract l.toNat hh.toNat)) w := by
      simp only [Instr.sliceAt, Sem.run_bind, run_und hd, Result.andThen_ok, Instr.slice]
      simp [hb]
    simp [execOp, h, hv, hsl]
  · cases hk

theorem ok_sliceArr {P : Program} {fr : List D} {m : List Box} {o : Oper} {t : TypeId} {x : Operand} {Ω : Type} {K : Eff → Option Ω} {r : Ω} (h : o.op = .slice t x none none none) (hk : sliceArrK P t m (evalD fr x) K = some r) :
    ∃ e, K e = some r ∧ OpOK P o fr m e := by
  unfold sliceArrK at hk
  split at hk
  · rename_i n elem b hd hx
    split at hk
    · rename_i ti z cs hti hb
      split at hk
      · rename_i hcond
        simp only [Bool.and_eq_true, Nat.beq_eq] at hcond
        obtain ⟨hsz, hlen⟩ := hcond
        · skip
          refine ⟨_, hk, ?_⟩
          intro a w Z β next Q hZ ho hm hnone hn
          have hv := ho x (by simp [h, Op.operands])
          rw [hx] at hv
          rcases hv with hv | hv
          · cases hv
          generalize hy : a.eval x = y at hv
          cases hv with
          | c h => cases h
          | ptr _ _ _ l k hl hkb =>
          obtain ⟨l', hl', hz, hlen', hin⟩ := hm.box b _ (.inl (by simp)) hb
          rw [hl] at hl'; obtain rfl := Option.some.inj hl'
          have hflat : Flat m [b] := fun i hi => by simp at hi; subst hi; exact ⟨z, [cs], hb⟩
          have hbx : Boxes w Z β m [b] := fun i hi x hx => hm.box i x (.inr (by simpa [wrIds] using hi)) hx
          have hkz := killZ_lt hZ hbx (fun i hi => by obtain ⟨z, es, he⟩ := hflat i hi; exact ⟨z, true, es, he⟩)
          have hids : ∀ j, (j ∈ wrIds { val := .s (.one (.fr 1 (cs.map fun d => [d]))), rd := [b], wr := [(b, .dead)] } ∨ newId m { val := .s (.one (.fr 1 (cs.map fun d => [d]))), rd := [b], wr := [(b, .dead)] } j) → j = b := by
            intro j hj
            rcases hj with hj | hj
            · simpa [wrIds] using hj
            · simp [newId] at hj; omega
          simp only [InBlk, hkb] at hin
          obtain ⟨_, hkw, c, tt, hc, hcsz, hcap, _, hel⟩ := hin
          obtain ⟨hcl, hcd⟩ := hel 0 cs rfl
          have hexec : (execOp a.eval o).run P w = .ok (.value (.slice (some ⟨k, 0, none⟩) n n)) w := by
            have hz0 : (⟨k, 0, none⟩ : Addr).add 0 = ⟨k, 0, none⟩ := rfl
            simp [execOp, h, hy, Instr.sliceAt, run_und hd, Instr.sureAddr, Instr.sliceBounds, run_size hti, hz0]
          have hmem : nth (Eff.mem { val := .s (.one (.fr 1 (cs.map fun d => [d]))), rd := [b], wr := [(b, .dead)] } m) b = some .dead := by
            simp only [Eff.mem, List.append_nil]
            exact nth_putAll_killed [b] m b (nth_lt hb) (.inl (by simp))
          refine wp_value hexec (hn _ _ (killZ Z β [b]) β ⟨.inr (.c ?_), Ext.refl _ _, Sub.refl _, fun _ h _ => h, ?_, fun _ => .inl, ?_, ⟨?_, ?_⟩, fun j hj _ _ => by rw [hids j (.inl hj)]; exact ⟨_, _, _, hb⟩⟩)
          · have hl2 : (cs.map fun d => [d]).length = n := by simpa using hlen
            rw [← hl2]
            refine .fr 1 _ k 0 _ (fun i _ => (c[i]?).getD undef) (.inr ⟨b, l, by simp, hl, hkb⟩) (Nat.le_refl _) ?_ ?_ ?_
            · intro i e he
              rw [nth_map] at he
              obtain ⟨d, _, rfl⟩ := Option.map_eq_some_iff.1 he
              rfl
            · intro i j hi hj
              obtain rfl : j = 0 := by omega
              simp only [List.length_map] at hi
              have hlt : i < c.size := by
                have : 1 * l.z ≤ l.cap * l.z := Nat.mul_le_mul_right _ (by simpa using hcap)
                omega
              rw [cells_of_block hc]
              simp [hlt]
            · intro i e j d he hj
              rw [nth_map] at he
              obtain ⟨d', hd', rfl⟩ := Option.map_eq_some_iff.1 he
              cases j with
              | succ j => simp [nth] at hj
              | zero =>
                simp [nth] at hj; subst hj
                obtain ⟨u, hu, hvu⟩ := hcd i _ hd'
                simp only [Nat.zero_mul, Nat.zero_add] at hu
                simp only [hu, Option.getD_some]
                exact (hvu.2 rfl).wide (Wide.kill hZ β [b])
          · intro j _ _ hj; simp [newId] at hj; omega
          · rintro k' (h1 | ⟨b', l', h1, h2, h3⟩)
            · exact .inl h1
            · exact .inr (.inr ⟨b', l', by simpa [wrIds] using h1, hflat.live b' h1, h2, h3⟩)
          · intro j x hj hx
            rw [hids j hj, hmem] at hx; cases hx; trivial
          · intro j1 j2 _ _ _ h1 h2 _ _ _ _ _ _
            rw [hids j1 h1, hids j2 h2]
      · cases hk
    · cases hk
  · cases hk
end Go.Proofs.Ytceaambiagobbaa.Am

/- Each operation of the abstract machine tells what the machine's operation does: append, make, literals, slicing, parts of values. -/
import Derived.Test.YtceaambiagobbaaAmSlice
namespace Go.Proofs.Ytceaambiagobbaa.Am
open Go

/-! ### the elements of a slice -/
/-- a slice's elements, as they lie in memory -/
def Src (w : World) (Z : Nat → Prop) (β : Nat → Option Loc) (size : Nat) (fl : Bool) (es : List (List D1)) (y : Value) : Prop :=
  (es = [] ∧ ∃ a c, y = .slice a 0 c) ∨
  ∃ k o cap, ∃ g : Nat → Value, y = .slice (some ⟨k, o, none⟩) es.length cap ∧ (∀ j, j < es.length * size → w.cell? ⟨k, o + j, none⟩ = some (g j)) ∧
    ∀ i cs, nth es i = some cs → cs.length = size ∧ ∀ j d, nth cs j = some d → VC w Z β fl d (g (i * size + j))

theorem src_ok {w : World} {Z : Nat → Prop} {β : Nat → Option Loc} {m : List Box} {d : D} {b zo : Option Nat} {fl : Bool} {es : List (List D1)} {size : Nat} {y : Value}
    (h : elems? m d = some (b, zo, fl, es)) (hf : fits size zo = true) (hb : Boxes w Z β m b.toList) (hv : VD w Z β d y) : Src w Z β size fl es y := by
  unfold elems? at h
  split at h
  · rename_i b0
    split at h
    · rename_i z fl0 es0 hb0
      cases h
      simp only [fits, Nat.beq_eq] at hf
      subst hf
      obtain ⟨l', hl', hz', hlen, hin⟩ := hb b0 (by simp) _ hb0
      rcases hv with hv | hv
      · cases hv
      cases hv with
      | c h => cases h
      | fs _ l k hl hk =>
        rw [hl] at hl'; obtain rfl := Option.some.inj hl'
        simp only [InBlk, hk] at hin
        obtain ⟨_, _, c, t, hc, hsz, hcap, _, hel⟩ := hin
        right
        refine ⟨k, 0, l.cap, fun j => (c[j]?).getD undef, by rw [hlen], ?_, ?_⟩
        · intro j hj
          have : es.length * l.z ≤ c.size := by rw [hsz]; exact Nat.mul_le_mul_right _ hcap
          rw [cells_of_block hc, Nat.zero_add]
          rw [hz'] at this
          have hlt : j < c.size := by omega
          simp [hlt]
        · intro i cs hi
          obtain ⟨h1, h2⟩ := hel i cs hi
          refine ⟨by rw [h1, hz'], fun j d hj => ?_⟩
          obtain ⟨u, hu, hvu⟩ := h2 j d hj
          rw [hz'] at hu
          simp only [hu, Option.getD_some]
          exact hvu
      | fs0 _ l hl hk h0 =>
        rw [hl] at hl'; obtain rfl := Option.some.inj hl'
        simp only [InBlk, hk] at hin
        exact .inl ⟨hin, _, _, rfl⟩
    · cases h
  · rename_i z es0
    cases h
    simp only [fits, Nat.beq_eq] at hf
    subst hf
    rcases hv with hv | hv
    · cases hv
    cases hv with
    | c h =>
      cases h with
      | fr0 => exact .inl ⟨rfl, _, _, rfl⟩
      | fr _ _ k o cap g hz hcap h1 h2 h3 =>
        right
        by_cases hz0 : z = 0
        · subst hz0
          refine ⟨k, o, cap, fun _ => undef, rfl, fun j hj => by simp at hj, fun i cs hi => ⟨h1 i cs hi, fun j d hj => ?_⟩⟩
          have := nth_lt hj; rw [h1 i cs hi] at this; omega
        · refine ⟨k, o, cap, fun j => g (j / z) (j % z), rfl, fun j hj => ?_, fun i cs hi => ⟨h1 i cs hi, fun j d hj => ?_⟩⟩
          · have hp : 0 < z := by omega
            have hlt : j / z < es.length := Nat.div_lt_of_lt_mul (by rw [Nat.mul_comm]; exact hj)
            have := h2 (j / z) (j % z) hlt (Nat.mod_lt _ hp)
            have e : o + j / z * z + j % z = o + j := by rw [Nat.add_assoc, Nat.mul_comm, Nat.div_add_mod]
            rwa [e] at this
          · have hjz := nth_lt hj
            rw [h1 i cs hi] at hjz
            have e1 : (i * z + j) / z = i := by rw [Nat.mul_comm, Nat.mul_add_div (by omega), Nat.div_eq_of_lt hjz]; rfl
            have e2 : (i * z + j) % z = j := by rw [Nat.mul_comm, Nat.mul_add_mod, Nat.mod_eq_of_lt hjz]
            simp only [e1, e2]
            exact ⟨.c (h3 i cs j d hi hj), fun _ => h3 i cs j d hi hj⟩
  · cases h
    rcases hv with hv | hv
    · cases hv
    · rw [hv.v_eq]; exact .inl ⟨rfl, _, _, rfl⟩
  · cases h

/-- the cells of a slice's elements -/
theorem Src.cells {w : World} {Z : Nat → Prop} {β : Nat → Option Loc} {size : Nat} {fl : Bool} {es : List (List D1)} {k o : Nat} {g : Nat → Value}
    (h1 : ∀ j, j < es.length * size → w.cell? ⟨k, o + j, none⟩ = some (g j)) (h2 : ∀ i cs, nth es i = some cs → cs.length = size ∧ ∀ j d, nth cs j = some d → VC w Z β fl d (g (i * size + j))) :
    ∃ ys : List Value, ys.length = es.length * size ∧ (∀ j u, ys[j]? = some u → w.cell? ((⟨k, o, none⟩ : Addr).add j) = some u) ∧ (∀ u ∈ ys, u.oneCell' = true) ∧
      ∀ i cs, nth es i = some cs → cs.length = size ∧ ∀ j d, nth cs j = some d → ∃ y, ys[i * size + j]? = some y ∧ VC w Z β fl d y := by
  refine ⟨(List.range (es.length * size)).map g, by simp, ?_, ?_, ?_⟩
  · intro j u hu
    rw [add_none]
    have hj : j < es.length * size := by
      rcases Nat.lt_or_ge j (es.length * size) with h | h
      · exact h
      · rw [List.getElem?_eq_none (by simpa using h)] at hu; cases hu
    rw [List.getElem?_map, List.getElem?_range hj] at hu
    simp at hu; subst hu
    exact h1 j hj
  · intro u hu
    obtain ⟨j, hj, rfl⟩ := List.mem_map.1 hu
    rw [List.mem_range] at hj
    rcases Nat.eq_zero_or_pos size with hz | hz
    · subst hz; simp at hj
    · have hlt : j / size < es.length := Nat.div_lt_of_lt_mul (by rw [Nat.mul_comm]; exact hj)
      obtain ⟨cs, hcs⟩ := nth_some hlt
      obtain ⟨hl, hv⟩ := h2 _ cs hcs
      have hm : j % size < cs.length := by rw [hl]; exact Nat.mod_lt _ hz
      obtain ⟨d, hd⟩ := nth_some hm
      have := (hv _ d hd).1.one
      rwa [Nat.mul_comm, Nat.div_add_mod] at this
  · intro i cs hi
    obtain ⟨hl, hv⟩ := h2 i cs hi
    refine ⟨hl, fun j d hj => ⟨g (i * size + j), ?_, hv j d hj⟩⟩
    have hjl := nth_lt hj
    have hil := nth_lt hi
    have hlt : i * size + j < es.length * size := by
      have : (i + 1) * size ≤ es.length * size := Nat.mul_le_mul_right _ hil
      rw [Nat.succ_mul] at this; omega
    rw [List.getElem?_map, List.getElem?_range hlt]; rfl

/-! ### append -/
theorem run_append_none {P : Program} {t e ty : TypeId} {i : TypeInfo} (ht : P.underlying t = some (.slice e)) (hi : P.info? e = some i) (w : World) (base : Option Addr) (n cap : Nat) (a : Option Addr) (c : Nat) (hn : n ≤ cap) :
    (Builtin.append_ #[t, t] ty #[.slice base n cap, .slice a 0 c]).run P w = .ok (.slice base n cap) w := by
  cases a with
  | none =>
    cases base <;> simp [Builtin.append_, run_underlying ht, sizeOf, typeInfo, hi, Builtin.lenOf, Builtin.firstCells, hn, storeCells]
  | some a =>
    cases base <;> simp [Builtin.append_, run_underlying ht, sizeOf, typeInfo, hi, Builtin.lenOf, Builtin.firstCells, loadCells, loadCellsFrom, hn, storeCells]

/-- the elements of two lists, one behind the other, in one row of cells -/
theorem elems_append {w : World} {Z : Nat → Prop} {β : Nat → Option Loc} {size : Nat} {fl fl' : Bool} {es es' : List (List D1)} {c : Array Value} {ys : List Value}
    (h1 : ∀ e cs, nth es e = some cs → cs.length = size ∧ ∀ j d, nth cs j = some d → ∃ y, c[e * size + j]? = some y ∧ VC w Z β fl d y)
    (h2 : ∀ e cs, nth es' e = some cs → cs.length = size ∧ ∀ j d, nth cs j = some d → ∃ y, ys[e * size + j]? = some y ∧ VC w Z β fl' d y)
    (hc : ∀ j y, ys[j]? = some y → c[es.length * size + j]? = some y) :
    ∀ e cs, nth (es ++ es') e = some cs → cs.length = size ∧ ∀ j d, nth cs j = some d → ∃ y, c[e * size + j]? = some y ∧ VC w Z β (fl && fl') d y := by
  intro e cs he
  rw [nth_append] at he
  split at he
  · obtain ⟨a, b⟩ := h1 e cs he
    refine ⟨a, fun j d hj => ?_⟩
    obtain ⟨y, hy, hv⟩ := b j d hj
    exact ⟨y, hy, hv.weak (by simp; exact fun h _ => h)⟩
  · rename_i hge
    obtain ⟨a, b⟩ := h2 _ cs he
    refine ⟨a, fun j d hj => ?_⟩
    obtain ⟨y, hy, hv⟩ := b j d hj
    refine ⟨y, ?_, hv.weak (by simp)⟩
    rw [← hc _ y hy]
    congr 1
    have : e = es.length + (e - es.length) := by omega
    rw [← Nat.add_assoc, ← Nat.add_mul, ← this]

theorem killZ_lt {w : World} {Z : Nat → Prop} {β : Nat → Option Loc} {m : List Box} {ks : List Nat} (hZ : Zok w Z) (hb : Boxes w Z β m ks) (hl : ∀ b ∈ ks, ∃ z fl es, nth m b = some (.own z fl es)) : ∀ k, killZ Z β ks k → k < w.heap.size := by
  rintro k (hk | ⟨b, l, hbk, hl', hk⟩)
  · exact hZ k hk
  · obtain ⟨z, fl, es, hn⟩ := hl b hbk
    obtain ⟨l2, h2, _, _, hin⟩ := hb b hbk _ hn
    rw [hl'] at h2; obtain rfl := Option.some.inj h2
    simp only [InBlk, hk] at hin
    exact hin.2.1

/-- there is room: the cells are written behind the last ones -/
theorem run_append_fit {P : Program} (w : World) (t ty e tt : TypeId) (i : TypeInfo) (ht : P.underlying t = some (.slice e)) (hi : P.info? e = some i)
    (g sLen sCap : Nat) (cur : Array Value) (hg : w.heap[g]? = some (.cells cur tt (0, 0)))
    (a : Addr) (m c : Nat) (news : List Value) (hl : news.length = m * i.size) (hnews : ∀ j u, news[j]? = some u → w.cell? (a.add j) = some u) (h1 : ∀ u ∈ news, u.oneCell' = true)
    (hroom : sLen + m ≤ sCap) (hfit : sLen * i.size + news.length ≤ cur.size) :
    (Builtin.append_ #[t, t] ty #[.slice (some ⟨g, 0, none⟩) sLen sCap, .slice (some a) m c]).run P w =
      .ok (.slice (some ⟨g, 0, none⟩) (sLen + m) sCap) (w.setRow g (cur.toList.take (sLen * i.size) ++ news ++ cur.toList.drop (sLen * i.size + news.length)).toArray) := by
  have hf := run_firstCells_some (P := P) w i.size m a m c news hl hnews
  have hst := run_storeCells_at P g (sLen * i.size) tt news 0 cur w hg (by simpa using hfit) h1
  simp only [Nat.add_zero] at hst
  simp [Builtin.append_, run_underlying ht, sizeOf, typeInfo, hi, Builtin.lenOf, hroom, hf, Addr.add_lit, hst]

/-- as 'OpOK', with what is told of memory besides -/
def OpOKx (P : Program) (o : Oper) (fr : List D) (m : List Box) (e : Eff) (X : World → (Nat → Prop) → (Nat → Option Loc) → World → Prop) : Prop :=
  ∀ (a : Act) (w : World) (Z : Nat → Prop) (β : Nat → Option Loc) (next : Act → World → Prop) (Q : Exit → Act → World → Prop),
    Zok w Z → (∀ x ∈ o.op.operands, VD w Z β (evalD fr x) (a.eval x)) → MR w Z β m (foot e) → (∀ b, newId m e b → β b = none) →
    (∀ v w' Z' β', Post w Z β m e v w' Z' β' → X w Z β w' → next (a.put o.dst v) w') → o.wp P a w next Q

theorem ok_append' {P : Program} {fr : List D} {m : List Box} {o : Oper} {t elem : TypeId} {ti : TypeInfo} {zv : Value} {s x : Operand} {Ω : Type} {K : Eff → Option Ω} {r : Ω} {b z b' z' : Option Nat} {fl fl' : Bool} {es es' : List (List D1)}
    (h : o.op = .call { callee := .builtin .append, args := #[s, x], argTypes := #[t, t] }) (hd : desc P t = some (.slice elem)) (hti : P.info? elem = some ti) (hzv : ti.zero = some zv)
    (hs : elems? m (evalD fr s) = some (b, z, fl, es)) (hx : elems? m (evalD fr x) = some (b', z', fl', es'))
    (hcond : (!isFr (evalD fr s) && !sameBox b b' && fits ti.size z && fits ti.size z' && Nat.blt 0 ti.size && Nat.blt 0 ti.bytes && Nat.beq zv.cells.size ti.size) = true)
    (hk : (bif decide ((es.length + es'.length) * ti.bytes ≤ 140737488355328) then
              K { val := .s (.one (.fs m.length)), rd := b.toList ++ b'.toList, wr := killed b.toList, news := [.own ti.size (fl && fl') (es ++ es')] }
            else none) = some r) :
    K { val := .s (.one (.fs m.length)), rd := b.toList ++ b'.toList, wr := killed b.toList, news := [.own ti.size (fl && fl') (es ++ es')] } = some r ∧
    OpOKx P o fr m { val := .s (.one (.fs m.length)), rd := b.toList ++ b'.toList, wr := killed b.toList, news := [.own ti.size (fl && fl') (es ++ es')] } (fun _ Z β w' => ∀ i ∈ b.toList, ∀ l, β i = some l → InBlk w' Z β l fl es) := by
  simp only [Bool.and_eq_true, Bool.not_eq_true', Nat.beq_eq, Nat.blt_eq] at hcond
  obtain ⟨⟨⟨⟨⟨⟨hfrs, _⟩, hfz⟩, hfz'⟩, hpos⟩, hbpos⟩, hzvs⟩ := hcond
  cases hc : decide ((es.length + es'.length) * ti.bytes ≤ 140737488355328) with
  | false => rw [hc] at hk; cases hk
  | true =>
  rw [hc] at hk
  have hfit := of_decide_eq_true hc
  refine ⟨hk, ?_⟩
  intro a w Z β next Q hZ ho hm hnone hn
  have hops : o.op.operands = #[s, x] := by simp [h, Op.operands, Call.operands]
  have hvs := ho s (by simp [hops])
  have hvx := ho x (by simp [hops])
  have hund : P.underlying t = some (.slice elem) := hd
  have hrd : ∀ i ∈ b.toList ++ b'.toList, foot { val := .s (.one (.fs m.length)), rd := b.toList ++ b'.toList, wr := killed b.toList, news := [.own ti.size (fl && fl') (es ++ es')] } i := fun i hi => .inl hi
  have hbx : Boxes w Z β m b.toList := fun i hi y hy => hm.box i y (hrd i (List.mem_append.2 (.inl hi))) hy
  have hbx' : Boxes w Z β m b'.toList := fun i hi y hy => hm.box i y (hrd i (List.mem_append.2 (.inr hi))) hy
  have hexec : (execOp a.eval o).run P w = ((Builtin.append_ #[t, t] o.type #[a.eval s, a.eval x]).run P w).andThen fun v w' => .ok (.value v) w' := by
    simp [execOp, h, resolve, invoke, builtin]
  have hlen63 : es.length + es'.length ≤ (es.length + es'.length) * ti.bytes := Nat.le_mul_of_pos_right _ hbpos
  have hnew0 : β m.length = none := hnone _ (by simp [newId])
  have hsrc := src_ok hx hfz' hbx' hvx
  -- the slice that grows: none, or one's own
  have hdst : (b = none ∧ es = [] ∧ a.eval s = .slice none 0 0) ∨ ∃ i l, b = some i ∧ nth m i = some (.own ti.size fl es) ∧ β i = some l ∧ l.z = ti.size ∧ l.len = es.length ∧ InBlk w Z β l fl es ∧
      (l.blk = none ∧ a.eval s = .slice none 0 0 ∨ ∃ k, l.blk = some k ∧ a.eval s = .slice (some ⟨k, 0, none⟩) es.length l.cap) := by
    unfold elems? at hs
    split at hs
    · rename_i i he
      split at hs
      · rename_i z0 fl0 es0 hi
        cases hs
        simp only [fits, Nat.beq_eq] at hfz
        subst hfz
        right
        obtain ⟨l, hl, hz, hlen, hin⟩ := hbx i (by simp) _ hi
        refine ⟨i, l, rfl, hi, hl, hz, hlen, hin, ?_⟩
        rw [he] at hvs
        rcases hvs with hvs | hvs
        · cases hvs
        generalize hy : a.eval s = y at hvs
        cases hvs with
        | c h => cases h
        | fs _ l2 k hl2 hk2 => rw [hl] at hl2; obtain rfl := Option.some.inj hl2; exact .inr ⟨k, hk2, by rw [hlen]⟩
        | fs0 _ l2 hl2 hk2 h0 => rw [hl] at hl2; obtain rfl := Option.some.inj hl2; exact .inl ⟨hk2, rfl⟩
      · cases hs
    · rename_i z0 es0 he; rw [he] at hfrs; cases hfrs
    · rename_i he
      cases hs
      left
      refine ⟨rfl, rfl, ?_⟩
      exact VD.val_eq (d := evalD fr s) (by rw [he]; rfl) hvs
    · cases hs
  have hkill : ∀ i ∈ b.toList, ∃ z fl es, nth m i = some (.own z fl es) := by
    intro i hi
    rcases hdst with ⟨h1, _, _⟩ | ⟨j, l, h1, h2, _⟩
    · rw [h1] at hi; cases hi
    · rw [h1] at hi; simp at hi; subst hi; exact ⟨_, _, _, h2⟩
  have hkz : ∀ k, killZ Z β b.toList k → k < w.heap.size := killZ_lt hZ hbx hkill
  have hklt : ∀ i ∈ b.toList, i < m.length := fun i hi => by obtain ⟨z, fl, es, he⟩ := hkill i hi; exact nth_lt he
  have hwide : Wide w Z (killZ Z β b.toList) := Wide.kill hZ β _
  have hids : wrIds { val := .s (.one (.fs m.length)), rd := b.toList ++ b'.toList, wr := killed b.toList, news := [.own ti.size (fl && fl') (es ++ es')] } = b.toList := wrIds_killed _ _ _ _
  have hold0 : ∀ w', Ext w w' (fun _ => False) → ∀ i ∈ b.toList, ∀ l, β i = some l → InBlk w' Z β l fl es := by
    intro w' he i hi l hl
    rcases hdst with ⟨h1, _, _⟩ | ⟨j, l2, h1, h2, h3, _, _, h4, _⟩
    · rw [h1] at hi; cases hi
    · rw [h1] at hi; simp at hi; subst hi
      rw [h3] at hl; obtain rfl := Option.some.inj hl
      refine h4.mono he (fun k hk => ⟨hZ k hk, fun e => e.elim, hk⟩) (Sub.refl _) fun k hk => ⟨fun e => e.elim, ?_⟩
      simp only [InBlk, hk] at h4; exact h4.1
  -- nothing moves: what comes of it is the same slice (of a block or of none)
  have stay : ∀ (v : Value) (l : Loc), l.z = ti.size → l.len = (es ++ es').length → (execOp a.eval o).run P w = .ok (.value v) w →
      V1 w Z (withLoc β m.length l) (.fs m.length) v → InBlk w Z (withLoc β m.length l) l (fl && fl') (es ++ es') → (∀ k, l.blk = some k → ∃ i l', i ∈ b.toList ∧ β i = some l' ∧ l'.blk = some k) → o.wp P a w next Q := by
    intro v l hz hlen hr hv hin hblk
    refine wp_value hr (hn v w Z (withLoc β m.length l) ⟨.inr hv, Ext.refl _ _, Sub.withLoc hnew0, ?_, ?_, fun _ h => h, fun _ h => .inl h, ⟨?_, ?_⟩, fun i hi _ _ => hkill i (by rw [hids] at hi; exact hi)⟩ (hold0 w (Ext.refl _ _)))
    · intro i hi hne; unfold withLoc; rw [if_neg]; exact hi
      intro e; exact hne (by simp [newId]; omega)
    · intro i l2 k hi hl2 hk2
      simp [newId] at hi
      obtain rfl : i = m.length := by omega
      simp [withLoc] at hl2; subst hl2
      obtain ⟨j, l', hj, hl', hk'⟩ := hblk k hk2
      exact .inr ⟨j, l', by rw [hids]; exact hj, hkill j hj, hl', hk'⟩
    · intro i x hi hx
      rcases hi with hi | hi
      · rw [hids] at hi
        simp only [Eff.mem] at hx
        rw [nth_append, putAll_length, if_pos (hklt i hi), nth_putAll_killed _ _ _ (hklt i hi) (.inl hi)] at hx
        cases hx; trivial
      · simp [newId] at hi
        obtain rfl : i = m.length := by omega
        simp only [Eff.mem] at hx
        rw [nth_append, putAll_length, if_neg (by omega)] at hx
        simp [nth] at hx; subst hx
        exact ⟨l, by simp [withLoc], hz, hlen, hin⟩
    · intro i j l1 l2 k hi hj hli hlj _ _ _ _
      have dead : ∀ i, i ∈ b.toList → ¬ live (Eff.mem { val := .s (.one (.fs m.length)), rd := b.toList ++ b'.toList, wr := killed b.toList, news := [.own ti.size (fl && fl') (es ++ es')] } m) i := by
        rintro i hi ⟨z, f, e, he⟩
        simp only [Eff.mem] at he
        rw [nth_append, putAll_length, if_pos (hklt i hi), nth_putAll_killed _ _ _ (hklt i hi) (.inl hi)] at he
        cases he
      rcases hi with hi | hi
      · rw [hids] at hi; exact absurd hli (dead i hi)
      · rcases hj with hj | hj
        · rw [hids] at hj; exact absurd hlj (dead j hj)
        · simp [newId] at hi hj; omega
  -- a new block
  have fresh : ∀ (olds news : List Value) (cap : Nat) (rest : Array Value) (w' : World), es.length + es'.length ≤ cap → cap ≤ maxLen → rest.size = (cap - (es.length + es'.length)) * ti.size →
      olds.length = es.length * ti.size → news.length = es'.length * ti.size →
      (∀ e cs, nth es e = some cs → cs.length = ti.size ∧ ∀ j d, nth cs j = some d → ∃ y, olds[e * ti.size + j]? = some y ∧ VC w Z β fl d y) →
      (∀ e cs, nth es' e = some cs → cs.length = ti.size ∧ ∀ j d, nth cs j = some d → ∃ y, news[e * ti.size + j]? = some y ∧ VC w Z β fl' d y) →
      w'.heap = w.heap.push (.cells (olds.toArray ++ news.toArray ++ rest) elem (0, 0)) → w'.tape = w.tape → w'.os = w.os → w'.output = w.output →
      (execOp a.eval o).run P w = .ok (.value (.slice (some ⟨w.heap.size, 0, none⟩) (es.length + es'.length) cap)) w' → o.wp P a w next Q := by
    intro olds news cap rest w' hcap hmax hrest hol hnl hold hnew hh ht hos hout hr
    obtain ⟨Z', β', hp⟩ := post_block (w := w) (w' := w') (Z := Z) (β := β) (m := m) (d := .fs m.length) (rd := b.toList ++ b'.toList) (ks := b.toList) (v := .slice (some ⟨w.heap.size, 0, none⟩) (es.length + es'.length) cap)
      (c := olds.toArray ++ news.toArray ++ rest) (t := elem) (z := ti.size) (cap := cap) (fl := fl && fl') (es := es ++ es')
      hZ hh ht hos hout hkill hkz hnew0
      (by simp only [Array.size_append, List.size_toArray, hol, hnl, hrest, ← Nat.add_mul]; congr 1; omega)
      (by simpa using hcap) hmax
      (by
        refine elems_append (ys := news) (fun e cs he => ?_) (fun e cs he => ?_) ?_
        · obtain ⟨p, q⟩ := hold e cs he
          refine ⟨p, fun j d hj => ?_⟩
          obtain ⟨y, hy, hvy⟩ := q j d hj
          refine ⟨y, ?_, hvy.wide hwide⟩
          have hlt : e * ti.size + j < olds.length := by
            rcases Nat.lt_or_ge (e * ti.size + j) olds.length with h | h
            · exact h
            · rw [List.getElem?_eq_none h] at hy; cases hy
          rw [Array.append_assoc, Array.getElem?_append_left (by simpa using hlt)]
          simpa using hy
        · obtain ⟨p, q⟩ := hnew e cs he
          refine ⟨p, fun j d hj => ?_⟩
          obtain ⟨y, hy, hvy⟩ := q j d hj
          exact ⟨y, hy, hvy.wide hwide⟩
        · intro j y hy
          have hlt : j < news.length := by
            rcases Nat.lt_or_ge j news.length with h | h
            · exact h
            · rw [List.getElem?_eq_none h] at hy; cases hy
          rw [Array.append_assoc, Array.getElem?_append_right (by simp; omega), Array.getElem?_append_left (by simp; omega)]
          simp only [List.size_toArray, hol, List.getElem?_toArray]
          rw [← hy]; congr 1; omega)
      (fun l hl => by
        have := V1.fs (w := w') (Z := killZ Z β b.toList) (β := withLoc β m.length l) m.length l w.heap.size (by simp [withLoc]) (by rw [hl])
        rw [hl] at this ⊢
        simpa using this)
    refine wp_value hr (hn _ _ Z' β' hp (hold0 w' ⟨by rw [hh]; simp, fun k hk _ => by rw [hh, Array.getElem?_push]; rw [if_neg (by omega)], ht, hos, hout⟩))
  have h63 : es.length + es'.length ≤ maxLen := by simp only [maxLen]; omega
  rcases hdst with ⟨hb0, he0, has⟩ | ⟨i, l, hb0, hi, hl, hz, hlen, hin, hor⟩
  · -- onto nil
    subst he0
    rcases hsrc with ⟨hes', xa, xc, hxv⟩ | ⟨k, og, xcap, g, hxv, hg1, hg2⟩
    · subst hes'
      refine stay (.slice none 0 0) ⟨none, ti.size, 0, 0⟩ rfl rfl ?_ (.fs0 _ ⟨none, ti.size, 0, 0⟩ (by simp [withLoc]) rfl rfl) (by simp [InBlk]) (fun k hk => by cases hk)
      rw [hexec, has, hxv, run_append_none hund hti w none 0 0 xa xc (Nat.le_refl _)]; rfl
    · obtain ⟨news, hnl, hnc, _, hnv⟩ := Src.cells hg1 hg2
      rcases Nat.eq_zero_or_pos es'.length with h0 | h0
      · have : es' = [] := List.eq_nil_of_length_eq_zero h0
        subst this
        refine stay (.slice none 0 0) ⟨none, ti.size, 0, 0⟩ rfl rfl ?_ (.fs0 _ ⟨none, ti.size, 0, 0⟩ (by simp [withLoc]) rfl rfl) (by simp [InBlk]) (fun k hk => by cases hk)
        rw [hexec, has, hxv]
        simp only [List.length_nil]
        rw [run_append_none hund hti w none 0 0 _ _ (Nat.le_refl _)]; rfl
      · have hr := run_append_nil (P := P) w t o.type elem ti zv hund hti hzv ⟨k, og, none⟩ es'.length xcap news hnl hnc h0 (by simp at hlen63 hfit; omega) (by simp at hfit; omega)
        simp only [List.length_nil, Nat.zero_add] at h63
        refine fresh [] news (grownCap w es'.length 0 elem) (Builtin.zeroCells zv.cells (grownCap w es'.length 0 elem - es'.length)) (w.drew.alloc (.cells (news.toArray ++ Builtin.zeroCells zv.cells (grownCap w es'.length 0 elem - es'.length)) elem)) (by simpa using grownCap_ge w es'.length 0 elem) (grownCap_le_maxLen w es'.length 0 elem h63) ?_ (by simp) hnl (fun e cs he => by simp [nth] at he) hnv ?_ ?_ ?_ ?_ ?_
        · rw [size_zeroCells, hzvs]; simp
        · show w.heap.push _ = w.heap.push _; simp
        · rfl
        · rfl
        · rfl
        · rw [hexec, has, hxv, hr]; simp
  · subst hb0
    rcases hor with ⟨hblk, has⟩ | ⟨k, hblk, has⟩
    · -- a slice of one's own without a block
      have he0 : es = [] := by simpa only [InBlk, hblk] using hin
      subst he0
      rcases hsrc with ⟨hes', xa, xc, hxv⟩ | ⟨kx, og, xcap, g, hxv, hg1, hg2⟩
      · subst hes'
        refine stay (.slice none 0 0) ⟨none, ti.size, 0, 0⟩ rfl rfl ?_ (.fs0 _ ⟨none, ti.size, 0, 0⟩ (by simp [withLoc]) rfl rfl) (by simp [InBlk]) (fun k hk => by cases hk)
        rw [hexec, has, hxv, run_append_none hund hti w none 0 0 xa xc (Nat.le_refl _)]; rfl
      · obtain ⟨news, hnl, hnc, _, hnv⟩ := Src.cells hg1 hg2
        rcases Nat.eq_zero_or_pos es'.length with h0 | h0
        · have : es' = [] := List.eq_nil_of_length_eq_zero h0
          subst this
          refine stay (.slice none 0 0) ⟨none, ti.size, 0, 0⟩ rfl rfl ?_ (.fs0 _ ⟨none, ti.size, 0, 0⟩ (by simp [withLoc]) rfl rfl) (by simp [InBlk]) (fun k hk => by cases hk)
          rw [hexec, has, hxv]
          simp only [List.length_nil]
          rw [run_append_none hund hti w none 0 0 _ _ (Nat.le_refl _)]; rfl
        · have hr := run_append_nil (P := P) w t o.type elem ti zv hund hti hzv ⟨kx, og, none⟩ es'.length xcap news hnl hnc h0 (by simp at hlen63 hfit; omega) (by simp at hfit; omega)
          simp only [List.length_nil, Nat.zero_add] at h63
          refine fresh [] news (grownCap w es'.length 0 elem) (Builtin.zeroCells zv.cells (grownCap w es'.length 0 elem - es'.length)) (w.drew.alloc (.cells (news.toArray ++ Builtin.zeroCells zv.cells (grownCap w es'.length 0 elem - es'.length)) elem)) (by simpa using grownCap_ge w es'.length 0 elem) (grownCap_le_maxLen w es'.length 0 elem h63) ?_ (by simp) hnl (fun e cs he => by simp [nth] at he) hnv ?_ ?_ ?_ ?_ ?_
          · rw [size_zeroCells, hzvs]; simp
          · show w.heap.push _ = w.heap.push _; simp
          · rfl
          · rfl
          · rfl
          · rw [hexec, has, hxv, hr]; simp
    · have hin0 := hin
      simp only [InBlk, hblk] at hin
      obtain ⟨hnz, hkw, cur, tt, hcur, hcsz, hcap, hmax, hel⟩ := hin
      rw [hz] at hcsz
      have hel' : ∀ e cs, nth es e = some cs → cs.length = ti.size ∧ ∀ j d, nth cs j = some d → ∃ y, cur[e * ti.size + j]? = some y ∧ VC w Z β fl d y := by rw [← hz]; exact hel
      have same : es' = [] → ∀ xa xc, a.eval x = .slice xa 0 xc → o.wp P a w next Q := by
        intro hes' xa xc hxv
        subst hes'
        refine stay (.slice (some ⟨k, 0, none⟩) es.length l.cap) l hz (by simpa using hlen) ?_ ?_ ?_ (fun k' hk' => ⟨i, l, by simp, hl, hk'⟩)
        · rw [hexec, has, hxv, run_append_none hund hti w _ _ _ xa xc hcap]; rfl
        · have := V1.fs (w := w) (Z := Z) (β := withLoc β m.length l) m.length l k (by simp [withLoc]) hblk
          rwa [hlen] at this
        · simp only [InBlk, hblk, List.append_nil]
          refine ⟨hnz, hkw, cur, tt, hcur, by rw [hcsz, hz], hcap, hmax, fun e cs he => ?_⟩
          obtain ⟨p, q⟩ := hel e cs he
          refine ⟨p, fun j d hj => ?_⟩
          obtain ⟨y, hy, hvy⟩ := q j d hj
          exact ⟨y, hy, (hvy.mono (Ext.refl w (fun _ => False)) (fun k' hk' => ⟨hZ k' hk', fun e => e.elim, hk'⟩) (Sub.withLoc hnew0)).weak (by simp; exact fun h _ => h)⟩
      rcases hsrc with ⟨hes', xa, xc, hxv⟩ | ⟨kx, og, xcap, g, hxv, hg1, hg2⟩
      · exact same hes' xa xc hxv
      · obtain ⟨news, hnl, hnc, hn1, hnv⟩ := Src.cells hg1 hg2
        rcases Nat.eq_zero_or_pos es'.length with h0 | h0
        · have : es' = [] := List.eq_nil_of_length_eq_zero h0
          subst this
          exact same rfl _ _ hxv
        · by_cases hroom : es.length + es'.length ≤ l.cap
          · -- in its place
            have hfit2 : es.length * ti.size + news.length ≤ cur.size := by rw [hnl, hcsz, ← Nat.add_mul]; exact Nat.mul_le_mul_right _ hroom
            have hr := run_append_fit (P := P) w t o.type elem tt ti hund hti k es.length l.cap cur hcur ⟨kx, og, none⟩ es'.length xcap news hnl hnc hn1 hroom hfit2
            generalize hcur' : (cur.toList.take (es.length * ti.size) ++ news ++ cur.toList.drop (es.length * ti.size + news.length)).toArray = cur' at hr
            have hcget : ∀ j, cur'[j]? = if es.length * ti.size ≤ j ∧ j < es.length * ti.size + news.length then news[j - es.length * ti.size]? else cur[j]? := by
              intro j
              rw [← hcur', List.getElem?_toArray, splice_get _ _ _ _ (by simpa using hfit2)]; simp
            have hcsz' : cur'.size = cur.size := by rw [← hcur']; simp; omega
            have hext : Ext w (w.setRow k cur') (fun k' => k' = k) := ⟨by simp [World.setRow], fun k' _ hne => setRow_other w k k' cur' hne, rfl, rfl, rfl⟩
            have hzz : ∀ k', Z k' → k' < w.heap.size ∧ ¬ k' = k ∧ Z k' := fun k' hz' => ⟨hZ k' hz', fun e => hnz (e ▸ hz'), hz'⟩
            have hb1 : β i = some l := hl
            let l' : Loc := ⟨some k, ti.size, l.cap, (es ++ es').length⟩
            have hsub := Sub.withLoc (l := l') hnew0
            have hdead : ∀ j ∈ (some i).toList, nth (Eff.mem { val := .s (.one (.fs m.length)), rd := (some i).toList ++ b'.toList, wr := killed (some i).toList, news := [.own ti.size (fl && fl') (es ++ es')] } m) j = some .dead := by
              intro j hj
              simp only [Eff.mem]
              rw [nth_append, putAll_length, if_pos (hklt j hj), nth_putAll_killed _ _ _ (hklt j hj) (.inl hj)]
            have hlast : nth (Eff.mem { val := .s (.one (.fs m.length)), rd := (some i).toList ++ b'.toList, wr := killed (some i).toList, news := [.own ti.size (fl && fl') (es ++ es')] } m) m.length = some (.own ti.size (fl && fl') (es ++ es')) := by
              simp only [Eff.mem]
              rw [nth_append, putAll_length, if_neg (by omega)]; simp [nth]
            have hold2 : ∀ i2 ∈ (some i).toList, ∀ l2, β i2 = some l2 → InBlk (w.setRow k cur') Z β l2 fl es := by
              intro i2 hi2 l2 hl2
              simp at hi2; subst hi2
              rw [hb1] at hl2; obtain rfl := Option.some.inj hl2
              simp only [InBlk, hblk]
              refine ⟨hnz, by simpa [World.setRow] using hkw, cur', tt, setRow_heap w k cur cur' tt _ hcur, by rw [hcsz', hcsz, hz], by omega, hmax, ?_⟩
              intro e cs he
              obtain ⟨p, q⟩ := hel' e cs he
              refine ⟨by rw [p, hz], fun j d hj => ?_⟩
              obtain ⟨y, hy, hvy⟩ := q j d hj
              refine ⟨y, ?_, hvy.mono hext hzz (Sub.refl _)⟩
              have hjl := nth_lt hj
              have hel2 := nth_lt he
              have : (e + 1) * ti.size ≤ es.length * ti.size := Nat.mul_le_mul_right _ hel2
              rw [Nat.succ_mul] at this
              rw [hz, hcget, if_neg (by omega)]; exact hy
            refine wp_value (v := .slice (some ⟨k, 0, none⟩) (es.length + es'.length) l.cap) (w' := w.setRow k cur') (by rw [hexec, has, hxv, hr]; rfl) (hn _ _ Z (withLoc β m.length l') ⟨.inr ?_, hext.weak (fun k' _ e => ⟨i, l, by rw [hids]; simp, ⟨_, _, _, hi⟩, hb1, by rw [e]; exact hblk⟩), hsub, ?_, ?_, fun _ h => h, fun _ h => .inl h, ⟨?_, ?_⟩, fun j hj _ _ => hkill j (by rw [hids] at hj; exact hj)⟩ hold2)
            · have := V1.fs (w := w.setRow k cur') (Z := Z) (β := withLoc β m.length l') m.length l' k (by simp [withLoc]) rfl
              simpa [l'] using this
            · intro j hj hne; unfold withLoc; rw [if_neg]; exact hj
              intro e; exact hne (by simp [newId]; omega)
            · intro j l2 k2 hj hl2 hk2
              simp [newId] at hj
              obtain rfl : j = m.length := by omega
              simp [withLoc] at hl2; subst hl2
              obtain rfl : k = k2 := Option.some.inj hk2
              exact .inr ⟨i, l, by rw [hids]; simp, ⟨_, _, _, hi⟩, hb1, hblk⟩
            · intro j x hj hx
              rcases hj with hj | hj
              · rw [hids] at hj; rw [hdead j hj] at hx; cases hx; trivial
              · simp [newId] at hj
                obtain rfl : j = m.length := by omega
                rw [hlast] at hx; cases hx
                refine ⟨l', by simp [withLoc], rfl, rfl, ?_⟩
                simp only [InBlk, l']
                refine ⟨hnz, by simpa [World.setRow] using hkw, cur', tt, setRow_heap w k cur cur' tt _ hcur, by rw [hcsz', hcsz], by simpa using hroom, hmax, ?_⟩
                have key := elems_append (w := w) (Z := Z) (β := β) (size := ti.size) (fl := fl) (fl' := fl') (es := es) (es' := es') (c := cur') (ys := news) ?_ hnv ?_
                · intro e cs he
                  obtain ⟨p, q⟩ := key e cs he
                  refine ⟨p, fun j d hj => ?_⟩
                  obtain ⟨y, hy, hvy⟩ := q j d hj
                  exact ⟨y, hy, hvy.mono hext hzz hsub⟩
                · intro e cs he
                  obtain ⟨p, q⟩ := hel' e cs he
                  refine ⟨p, fun j d hj => ?_⟩
                  obtain ⟨y, hy, hvy⟩ := q j d hj
                  refine ⟨y, ?_, hvy⟩
                  have hjl := nth_lt hj
                  have hel2 := nth_lt he
                  have : (e + 1) * ti.size ≤ es.length * ti.size := Nat.mul_le_mul_right _ hel2
                  rw [Nat.succ_mul] at this
                  rw [hcget, if_neg (by omega)]; exact hy
                · intro j y hy
                  have hlt : j < news.length := by
                    rcases Nat.lt_or_ge j news.length with h | h
                    · exact h
                    · rw [List.getElem?_eq_none h] at hy; cases hy
                  rw [hcget, if_pos (by omega), ← hy]; congr 1; omega
            · intro j1 j2 l1 l2 k2 h1 h2 hli1 hli2 _ _ _ _
              have dead : ∀ j, j ∈ (some i).toList → ¬ live (Eff.mem { val := .s (.one (.fs m.length)), rd := (some i).toList ++ b'.toList, wr := killed (some i).toList, news := [.own ti.size (fl && fl') (es ++ es')] } m) j := by
                rintro j hj ⟨z, f, e, he⟩
                rw [hdead j hj] at he; cases he
              rcases h1 with h1 | h1
              · rw [hids] at h1; exact absurd hli1 (dead j1 h1)
              · rcases h2 with h2 | h2
                · rw [hids] at h2; exact absurd hli2 (dead j2 h2)
                · simp [newId] at h1 h2; omega
          · -- it moves
            have hnsz : es.length * ti.size ≤ cur.size := by rw [hcsz]; exact Nat.mul_le_mul_right _ hcap
            have hol : (cur.toList.take (es.length * ti.size)).length = es.length * ti.size := by simp; omega
            have holds : ∀ j u, (cur.toList.take (es.length * ti.size))[j]? = some u → w.cell? ((⟨k, 0, none⟩ : Addr).add j) = some u := by
              intro j u hu
              rw [add_none, Nat.zero_add, cells_of_block hcur]
              rw [List.getElem?_take] at hu
              split at hu
              · simpa using hu
              · cases hu
            have hr := run_append_grow (P := P) w t o.type elem ti zv hund hti hzv ⟨k, 0, none⟩ es.length l.cap (cur.toList.take (es.length * ti.size)) hol holds ⟨kx, og, none⟩ es'.length xcap news hnl hnc (by omega) (by omega) (growslice_fits (by omega) hfit)
            refine fresh (cur.toList.take (es.length * ti.size)) news (grownCap w (es.length + es'.length) l.cap elem) (Builtin.zeroCells zv.cells (grownCap w (es.length + es'.length) l.cap elem - (es.length + es'.length)))
              (w.drew.alloc (.cells ((cur.toList.take (es.length * ti.size)).toArray ++ news.toArray ++ Builtin.zeroCells zv.cells (grownCap w (es.length + es'.length) l.cap elem - (es.length + es'.length))) elem))
              (grownCap_ge w _ l.cap elem) (grownCap_le_maxLen w _ l.cap elem h63) ?_ hol hnl ?_ hnv rfl rfl rfl rfl ?_
            · rw [size_zeroCells, hzvs]
            · intro e cs he
              obtain ⟨p, q⟩ := hel' e cs he
              refine ⟨p, fun j d hj => ?_⟩
              obtain ⟨y, hy, hvy⟩ := q j d hj
              refine ⟨y, ?_, hvy⟩
              have hjl := nth_lt hj
              have hel2 := nth_lt he
              have : (e + 1) * ti.size ≤ es.length * ti.size := Nat.mul_le_mul_right _ hel2
              rw [Nat.succ_mul] at this
              rw [List.getElem?_take, if_pos (by omega)]; simpa using hy
            · rw [hexec, has, hxv, hr]; rfl

theorem ok_append {P : Program} {fr : List D} {m : List Box} {o : Oper} {t : TypeId} {s x : Operand} {Ω : Type} {K : Eff → Option Ω} {r : Ω}
    (h : o.op = .call { callee := .builtin .append, args := #[s, x], argTypes := #[t, t] }) (hk : appendK P m m.length t (evalD fr s) (evalD fr x) K = some r) :
    ∃ e, K e = some r ∧ OpOK P o fr m e := by
  unfold appendK at hk
  split at hk
  · rename_i elem hd
    split at hk
    · rename_i ti hti
      split at hk
      · rename_i zv hzv
        split at hk
        · rename_i b z fl es b' z' fl' es' hs hx
          split at hk
          · rename_i hcond
            obtain ⟨h1, h2⟩ := ok_append' h hd hti hzv hs hx hcond hk
            exact ⟨_, h1, fun a w Z β next Q q1 q2 q3 q4 q5 => h2 a w Z β next Q q1 q2 q3 q4 fun v w' Z' β' q _ => q5 v w' Z' β' q⟩
          · cases hk
        · cases hk
      · cases hk
    · cases hk
  · cases hk

/-- the old slice and the new one, which nobody writes any more -/
theorem ok_appendZ {P : Program} {fr : List D} {m : List Box} {o : Oper} {t : TypeId} {s x : Operand} {Ω : Type} {K : Eff → Option Ω} {r : Ω}
    (h : o.op = .call { callee := .builtin .append, args := #[s, x], argTypes := #[t, t] }) (hk : appendZK P m t (evalD fr s) (evalD fr x) K = some r) :
    ∃ e, K e = some r ∧ OpOK P o fr m e := by
  unfold appendZK at hk
  split at hk
  · rename_i elem hd
    split at hk
    · rename_i ti hti
      split at hk
      · rename_i zv hzv
        split at hk
        · rename_i b z es b' z' es' hs hx
          split at hk
          · rename_i hcond
            cases hc : decide ((es.length + es'.length) * ti.bytes ≤ 140737488355328) with
            | false => rw [hc] at hk; cases hk
            | true =>
            rw [hc] at hk
            obtain ⟨_, h2⟩ := ok_append' (K := fun e => some e) (r := { val := .s (.one (.fs m.length)), rd := (some b).toList ++ b'.toList, wr := killed (some b).toList, news := [.own ti.size (true && true) (es ++ es')] }) h hd hti hzv hs hx hcond (by rw [hc]; rfl)
            refine ⟨_, hk, ?_⟩
            intro a w Z β next Q q1 q2 q3 q4 q5
            have hbox : ∃ z0, nth m b = some (.own z0 true es) ∧ z0 = ti.size := by
              simp only [Bool.and_eq_true, Bool.not_eq_true'] at hcond
              have hf := hcond.1.1.1.1.2
              unfold elems? at hs
              split at hs
              · split at hs
                · rename_i b0 z0 fl0 es0 hb0
                  cases hs
                  simp only [fits, Nat.beq_eq] at hf
                  exact ⟨_, hb0, hf⟩
                · cases hs
              all_goals cases hs
            obtain ⟨z0, hb, rfl⟩ := hbox
            have hblt := nth_lt hb
            have hbz := q3.box b _ (.inl (by simp)) hb
            refine h2 a w Z β next Q q1 q2 ⟨fun i y hi hy => q3.box i y ?_ hy, fun i i2 l l2 k hi hi2 => q3.inj i i2 l l2 k ?_ ?_⟩ (fun i hi => q4 i hi) fun v w' Z' β' hp hx => ?_
            · rcases hi with hi | hi
              · exact .inl (by simpa using hi)
              · exact .inl (by simp [wrIds, killed] at hi; simp [hi])
            · rcases hi with hi | hi
              · exact .inl (by simpa using hi)
              · exact .inl (by simp [wrIds, killed] at hi; simp [hi])
            · rcases hi2 with hi | hi
              · exact .inl (by simpa using hi)
              · exact .inl (by simp [wrIds, killed] at hi; simp [hi])
            obtain ⟨l, hl, hlz, hlen, hin⟩ := hbz
            have hin' := hx b (by simp) l hl
            have hwb : ∀ k, wrBlk β m { val := .s (.one (.fs m.length)), rd := (some b).toList ++ b'.toList, wr := killed (some b).toList, news := [.own ti.size (true && true) (es ++ es')] } k ↔ l.blk = some k := by
              intro k
              constructor
              · rintro ⟨i, l2, hi, _, hl2, hk2⟩
                simp [wrIds, killed] at hi; subst hi
                rw [hl] at hl2; obtain rfl := Option.some.inj hl2; exact hk2
              · intro hk2; exact ⟨b, l, by simp [wrIds, killed], ⟨_, _, _, hb⟩, hl, hk2⟩
            have hbl : ∀ k, l.blk = some k → k < w.heap.size := by
              intro k hk2; simp only [InBlk, hk2] at hin; exact hin.2.1
            have hsz := hp.ext.size
            have hZ' : Zok w' Z' := by
              intro k hk2
              rcases hp.znew k hk2 with q | q | q
              · have := q1 k q; omega
              · exact q.2
              · have := hbl k ((hwb k).1 q); omega
            have hZw : Zok w' Z := fun k hk2 => hZ' k (hp.zsub k hk2)
            have hnew : nth (Eff.mem { val := .s (.one (.fs m.length)), rd := (some b).toList ++ b'.toList, wr := killed (some b).toList, news := [.own ti.size (true && true) (es ++ es')] } m) m.length = some (.own ti.size true (es ++ es')) := by
              simp only [Eff.mem]
              rw [nth_append, putAll_length, if_neg (by omega)]; simp [nth]
            have hbn := hp.mem.box m.length _ (.inr (by simp [newId])) hnew
            obtain ⟨ln, hln, hlnz, hlnlen, hlnin⟩ := hbn
            have hval : V1 w' Z' β' (.fs m.length) v := by
              rcases hp.val with q | q
              · cases q
              · exact q
            let Z2 : Nat → Prop := fun k => Z' k ∨ l.blk = some k ∨ ln.blk = some k
            have hZ2 : ∀ k, Z2 k → Z k ∨ (w.heap.size ≤ k ∧ k < w'.heap.size) ∨ l.blk = some k := by
              intro k hk2
              rcases hk2 with q | q | q
              · rcases hp.znew k q with q | q | q
                · exact .inl q
                · exact .inr (.inl q)
                · exact .inr (.inr ((hwb k).1 q))
              · exact .inr (.inr q)
              · rcases hp.news m.length ln k (by simp [newId]) hln q with q | q
                · exact .inr (.inl q)
                · exact .inr (.inr ((hwb k).1 q))
            have hcv : C1 w' Z2 (.fr ti.size (es ++ es')) v := fs_to_fr (Z := Z') (β := β') (b := m.length) ⟨hZ', fun _ => .inl⟩ ⟨ln, hln, hlnz, hlnlen, hlnin⟩ (fun l2 k hl2 hk2 => by rw [hln] at hl2; obtain rfl := Option.some.inj hl2; exact .inr (.inr hk2)) hval
            have hco : C1 w' Z2 (.fr ti.size es) l.val := by
              refine fs_to_fr (Z := Z) (β := β) (b := b) ⟨hZw, fun k hk2 => .inl (hp.zsub k hk2)⟩ ⟨l, hl, hlz, hlen, hin'⟩ (fun l2 k hl2 hk2 => by rw [hl] at hl2; obtain rfl := Option.some.inj hl2; exact .inr (.inl hk2)) ?_
              unfold Loc.val
              split
              · rename_i hbk
                refine .fs0 b l hl hbk ?_
                simp only [InBlk, hbk] at hin
                rw [hlen, hin]; rfl
              · rename_i k hbk
                exact .fs b l k hl hbk
            have hm2 : ∀ i, i ∈ wrIds { val := .s (.one (.fr ti.size (es ++ es'))), rd := b :: b'.toList, wr := [(b, .fz ti.size es)], news := [.dead] } ∨ newId m { val := .s (.one (.fr ti.size (es ++ es'))), rd := b :: b'.toList, wr := [(b, .fz ti.size es)], news := [.dead] } i →
                (i = b ∧ nth (Eff.mem { val := .s (.one (.fr ti.size (es ++ es'))), rd := b :: b'.toList, wr := [(b, .fz ti.size es)], news := [.dead] } m) i = some (.fz ti.size es)) ∨
                (i = m.length ∧ nth (Eff.mem { val := .s (.one (.fr ti.size (es ++ es'))), rd := b :: b'.toList, wr := [(b, .fz ti.size es)], news := [.dead] } m) i = some .dead) := by
              intro i hi
              rcases hi with hi | hi
              · simp [wrIds] at hi; subst hi
                left
                refine ⟨rfl, ?_⟩
                simp only [Eff.mem, putAll]
                rw [nth_append, upd_length, if_pos hblt, nth_upd, if_pos ⟨rfl, hblt⟩]
              · simp [newId] at hi
                obtain rfl : i = m.length := by omega
                right
                refine ⟨rfl, ?_⟩
                simp only [Eff.mem, putAll]
                rw [nth_append, upd_length, if_neg (by omega)]; simp [nth]
            have hnl : ∀ i, i ∈ wrIds { val := .s (.one (.fr ti.size (es ++ es'))), rd := b :: b'.toList, wr := [(b, .fz ti.size es)], news := [.dead] } ∨ newId m { val := .s (.one (.fr ti.size (es ++ es'))), rd := b :: b'.toList, wr := [(b, .fz ti.size es)], news := [.dead] } i →
                ¬ live (Eff.mem { val := .s (.one (.fr ti.size (es ++ es'))), rd := b :: b'.toList, wr := [(b, .fz ti.size es)], news := [.dead] } m) i := by
              rintro i hi ⟨z1, f1, e1, he1⟩
              rcases hm2 i hi with ⟨_, q⟩ | ⟨_, q⟩
              · rw [q] at he1; cases he1
              · rw [q] at he1; cases he1
            have hwb2 : ∀ k, l.blk = some k → wrBlk β m { val := .s (.one (.fr ti.size (es ++ es'))), rd := b :: b'.toList, wr := [(b, .fz ti.size es)], news := [.dead] } k := fun k hk2 => ⟨b, l, by simp [wrIds], ⟨_, _, _, hb⟩, hl, hk2⟩
            refine q5 v w' Z2 β ⟨.inr (.c hcv), hp.ext.weak (fun k _ hk2 => hwb2 k ((hwb k).1 hk2)), Sub.refl _, fun _ hi _ => hi, ?_, fun k hk2 => .inl (hp.zsub k hk2), ?_, ⟨?_, ?_⟩, fun i hi hn hv => absurd hv (hnl i (.inl hi))⟩
            · intro i l2 k hi hl2 _
              have := q4 i hi
              rw [this] at hl2; cases hl2
            · intro k hk2
              rcases hZ2 k hk2 with q | q | q
              · exact .inl q
              · exact .inr (.inl q)
              · exact .inr (.inr (hwb2 k q))
            · intro i y hi hy
              rcases hm2 i hi with ⟨e, q⟩ | ⟨e, q⟩
              · rw [q] at hy; cases hy; subst e; exact ⟨l, hl, hco⟩
              · rw [q] at hy; cases hy; trivial
            · intro i i2 l1 l2 k hi _ hv
              exact absurd hv (hnl i hi)
          · cases hk
        · cases hk
      · cases hk
    · cases hk
  · cases hk
end Go.Proofs.Ytceaambiagobbaa.Am

/- Each operation of the abstract machine tells what the machine's operation does: slices, aggregates, closures. -/
import Derived.Test.YtceaambiagobbaaAmNew
namespace Go.Proofs.Ytceaambiagobbaa.Am
open Go

/-- 'Z' is part of 'Z'', and all of it lies in the heap -/
structure Wide (w : World) (Z Z' : Nat → Prop) : Prop where
  ok : Zok w Z
  sub : ∀ k, Z k → Z' k
theorem Wide.use {w : World} {Z Z' : Nat → Prop} (h : Wide w Z Z') : ∀ k, Z k → k < w.heap.size ∧ ¬ (fun _ => False) k ∧ Z' k := fun k hk => ⟨h.ok k hk, fun e => e.elim, h.sub k hk⟩
theorem C1.wide {w : World} {Z Z' : Nat → Prop} (h : Wide w Z Z') {d : D1} {y : Value} (k : C1 w Z d y) : C1 w Z' d y := k.mono (Ext.refl w (fun _ => False)) h.use
theorem V1.wide {w : World} {Z Z' : Nat → Prop} {β : Nat → Option Loc} (h : Wide w Z Z') {d : D1} {y : Value} (k : V1 w Z β d y) : V1 w Z' β d y := k.mono (Ext.refl w (fun _ => False)) h.use (Sub.refl _)
theorem VC.wide {w : World} {Z Z' : Nat → Prop} {β : Nat → Option Loc} (h : Wide w Z Z') {cl : Bool} {d : D1} {y : Value} (k : VC w Z β cl d y) : VC w Z' β cl d y := k.mono (Ext.refl w (fun _ => False)) h.use (Sub.refl _)
theorem V0.wide {w : World} {Z Z' : Nat → Prop} {β : Nat → Option Loc} (h : Wide w Z Z') {d : D0} {y : Value} (k : V0 w Z β d y) : V0 w Z' β d y := V0.mono (Ext.refl w (fun _ => False)) h.use (Sub.refl _) k
theorem VD.wide {w : World} {Z Z' : Nat → Prop} {β : Nat → Option Loc} (h : Wide w Z Z') {d : D} {y : Value} (k : VD w Z β d y) : VD w Z' β d y := VD.mono (Ext.refl w (fun _ => False)) h.use (Sub.refl _) k
theorem Wide.kill {w : World} {Z : Nat → Prop} (h : Zok w Z) (β : Nat → Option Loc) (ks : List Nat) : Wide w Z (killZ Z β ks) := ⟨h, fun _ => .inl⟩

/-- a slice of one's own, by its elements -/
theorem fs_to_fr {w : World} {Z Z' : Nat → Prop} {β : Nat → Option Loc} {b z : Nat} {es : List (List D1)} {y : Value} (hw : Wide w Z Z') (hb : BoxOK w Z β b (.own z true es))
    (hz : ∀ l k, β b = some l → l.blk = some k → Z' k) (h : V1 w Z β (.fs b) y) : C1 w Z' (.fr z es) y := by
  obtain ⟨l', hl', hz', hlen, hin⟩ := hb
  cases h with
  | c h => cases h
  | fs _ l k hl hk =>
    rw [hl] at hl'; obtain rfl := Option.some.inj hl'
    simp only [InBlk, hk] at hin
    obtain ⟨_, _, c, t, hc, hsz, hcap, _, hel⟩ := hin
    rw [hlen]
    have hroom : ∀ i, i < es.length → (i + 1) * l.z ≤ c.size := by
      intro i hi; rw [hsz]; exact Nat.mul_le_mul_right _ (by omega)
    refine .fr z es k 0 l.cap (fun i j => (c[i * z + j]?).getD undef) (hz l k hl hk) hcap (fun i cs hi => by rw [(hel i cs hi).1, hz']) ?_ ?_
    · intro i j hi hj
      have := hroom i hi
      rw [Nat.succ_mul, hz'] at this
      rw [cells_of_block hc, Nat.zero_add]
      have hlt : i * z + j < c.size := by omega
      rw [Array.getElem?_eq_getElem hlt]; rfl
    · intro i cs j d hi hj
      obtain ⟨y, hy, hv⟩ := (hel i cs hi).2 j d hj
      rw [hz'] at hy
      show C1 w Z' d ((c[i * z + j]?).getD undef)
      rw [hy]
      exact (hv.2 rfl).wide hw
  | fs0 _ l hl hk h0 =>
    rw [hl] at hl'; obtain rfl := Option.some.inj hl'
    simp only [InBlk, hk] at hin
    subst hin
    exact .fr0 _ _ _

/-- the boxes of 'ks' are flat slices of one's own -/
def Flat (m : List Box) (ks : List Nat) : Prop := ∀ b ∈ ks, ∃ z es, nth m b = some (.own z true es)
theorem Flat.nil (m : List Box) : Flat m [] := fun _ h => by cases h
theorem Flat.live {m : List Box} {ks : List Nat} (h : Flat m ks) : ∀ b ∈ ks, Am.live m b := fun b hb => by obtain ⟨z, es, he⟩ := h b hb; exact ⟨z, true, es, he⟩
theorem Flat.lt {m : List Box} {ks : List Nat} (h : Flat m ks) : ∀ b ∈ ks, b < m.length := fun b hb => by obtain ⟨z, es, he⟩ := h b hb; exact nth_lt he
theorem Flat.append {m : List Box} {ks ks' : List Nat} (h : Flat m ks) (h' : Flat m ks') : Flat m (ks ++ ks') := fun b hb => by
  rcases List.mem_append.1 hb with hb | hb
  · exact h b hb
  · exact h' b hb
def InZ (β : Nat → Option Loc) (ks : List Nat) (Z' : Nat → Prop) : Prop := ∀ b ∈ ks, ∀ l k, β b = some l → l.blk = some k → Z' k
theorem InZ.kill {Z : Nat → Prop} {β : Nat → Option Loc} {ks : List Nat} : InZ β ks (killZ Z β ks) := fun b hb l _ hl hk => .inr ⟨b, l, hb, hl, hk⟩
theorem InZ.left {β : Nat → Option Loc} {ks ks' : List Nat} {Z' : Nat → Prop} (h : InZ β (ks ++ ks') Z') : InZ β ks Z' := fun b hb => h b (List.mem_append.2 (.inl hb))
theorem InZ.right {β : Nat → Option Loc} {ks ks' : List Nat} {Z' : Nat → Prop} (h : InZ β (ks ++ ks') Z') : InZ β ks' Z' := fun b hb => h b (List.mem_append.2 (.inr hb))

/-- 'ks' lie in memory as they say -/
def Boxes (w : World) (Z : Nat → Prop) (β : Nat → Option Loc) (m : List Box) (ks : List Nat) : Prop := ∀ b ∈ ks, ∀ x, nth m b = some x → BoxOK w Z β b x

theorem frzCells_ok : ∀ {m : List Box} {ds ds' : List D1} {ks : List Nat}, frzCells m ds = some (ds', ks) →
    Flat m ks ∧ ∀ (w : World) (Z Z' : Nat → Prop) (β : Nat → Option Loc) (ys : List Value), Wide w Z Z' → Boxes w Z β m ks → InZ β ks Z' → All2 (V1 w Z β) ds ys → All2 (V1 w Z' β) ds' ys
  | m, [], ds', ks, h => by
    simp [frzCells] at h
    obtain ⟨rfl, rfl⟩ := h
    exact ⟨Flat.nil m, fun w Z Z' β ys _ _ _ h => by cases ys with
      | nil => trivial
      | cons _ _ => exact h.elim⟩
  | m, d :: r, ds', ks, h => by
    have other : (frzCells m r).bind (fun (ds, ks) => some (d :: ds, ks)) = some (ds', ks) →
        Flat m ks ∧ ∀ (w : World) (Z Z' : Nat → Prop) (β : Nat → Option Loc) (ys : List Value), Wide w Z Z' → Boxes w Z β m ks → InZ β ks Z' → All2 (V1 w Z β) (d :: r) ys → All2 (V1 w Z' β) ds' ys := by
      intro h
      obtain ⟨⟨ds1, ks1⟩, h1, h2⟩ := Option.bind_eq_some_iff.1 h
      simp at h2
      obtain ⟨rfl, rfl⟩ := h2
      obtain ⟨hf, hv⟩ := frzCells_ok h1
      refine ⟨hf, fun w Z Z' β ys hw hb hz ha => ?_⟩
      cases ys with
      | nil => exact ha.elim
      | cons y s => exact ⟨ha.1.wide hw, hv w Z Z' β s hw hb hz ha.2⟩
    cases d with
    | fs b =>
      simp only [frzCells] at h
      split at h
      · rename_i z es hb
        obtain ⟨⟨ds1, ks1⟩, h1, h2⟩ := Option.bind_eq_some_iff.1 h
        simp at h2
        obtain ⟨rfl, rfl⟩ := h2
        obtain ⟨hf, hv⟩ := frzCells_ok h1
        refine ⟨fun b' hb' => ?_, fun w Z Z' β ys hw hbx hz ha => ?_⟩
        · rcases List.mem_cons.1 hb' with e | e
          · exact ⟨z, es, e ▸ hb⟩
          · exact hf b' e
        · cases ys with
          | nil => exact ha.elim
          | cons y s =>
            refine ⟨.c (fs_to_fr hw (hbx b (by simp) _ hb) (hz b (by simp)) ha.1), hv w Z Z' β s hw (fun b' hb' => hbx b' (by simp [hb'])) (fun b' hb' => hz b' (by simp [hb'])) ha.2⟩
      · cases h
    | v x => exact other h
    | ptr b e c => exact other h
    | fr z es => exact other h
    | rp cs => exact other h
    | clo f cap => exact other h
    | top => exact other h

theorem closedAll_all : ∀ {ds : List D1}, closedAll ds = true → ∀ d ∈ ds, closed1 d = true
  | [], _, d, h => by cases h
  | x :: r, h, d, hd => by
    simp only [closedAll, Bool.and_eq_true] at h
    rcases List.mem_cons.1 hd with e | e
    · exact e ▸ h.1
    · exact closedAll_all h.2 d e
theorem All2.close {w : World} {Z : Nat → Prop} {β : Nat → Option Loc} : ∀ {ds : List D1} {ys : List Value}, All2 (V1 w Z β) ds ys → All2 (VC w Z β (closedAll ds)) ds ys
  | [], [], _ => trivial
  | d :: r, y :: s, ⟨a, b⟩ => ⟨⟨a, fun h => a.closed (by simp [closedAll] at h; exact h.1)⟩, (All2.close b).mono fun _ _ k => k.weak (by simp [closedAll])⟩
  | [], _ :: _, k => k.elim
  | _ :: _, [], k => k.elim

theorem frz0_ok {m : List Box} {d d' : D0} {ks : List Nat} (h : frz0 m d = some (d', ks)) :
    Flat m ks ∧ ∀ (w : World) (Z Z' : Nat → Prop) (β : Nat → Option Loc) (y : Value), Wide w Z Z' → Boxes w Z β m ks → InZ β ks Z' → V0 w Z β d y → V0 w Z' β d' y := by
  unfold frz0 at h
  split at h
  · rename_i d1
    obtain ⟨⟨ds1, ks1⟩, h1, h2⟩ := Option.bind_eq_some_iff.1 h
    dsimp only at h2
    split at h2
    · rename_i d2
      cases h2
      obtain ⟨hf, hv⟩ := frzCells_ok h1
      refine ⟨hf, fun w Z Z' β y hw hb hz hy => ?_⟩
      rcases hy with hy | hy
      · subst hy
        simp [frzCells] at h1
        left; exact h1.1.symm
      · exact .inr (hv w Z Z' β [y] hw hb hz ⟨hy, trivial⟩).1
    · cases h2
  · cases h
    exact ⟨Flat.nil m, fun w Z Z' β y hw _ _ hy => hy.wide hw⟩
  · obtain ⟨⟨ds1, ks1⟩, h1, h2⟩ := Option.bind_eq_some_iff.1 h
    cases h2
    obtain ⟨hf, hv⟩ := frzCells_ok h1
    refine ⟨hf, fun w Z Z' β y hw hb hz hy => ?_⟩
    obtain ⟨ys, e, ha⟩ := hy
    exact ⟨ys, e, (hv w Z Z' β ys hw hb hz (ha.mono fun _ _ k => k.1)).close⟩

/-! ### aggregates -/
theorem parts_ok : ∀ {fr : List D} {parts : List (Nat × Operand)} {ps : List (Nat × D0)}, parts? fr parts = some ps →
    ∀ (w : World) (Z : Nat → Prop) (β : Nat → Option Loc) (a : Act), (∀ x ∈ parts.map (·.2), VD w Z β (evalD fr x) (a.eval x)) → All2 (fun p q => p.1 = q.1 ∧ V0 w Z β p.2 q.2) ps (parts.map fun p => (p.1, a.eval p.2))
  | fr, [], ps, h, w, Z, β, a, _ => by simp [parts?] at h; subst h; trivial
  | fr, (i, x) :: r, ps, h, w, Z, β, a, ho => by
    simp only [parts?] at h
    obtain ⟨d, h1, h⟩ := Option.bind_eq_some_iff.1 h
    obtain ⟨l, h2, h⟩ := Option.bind_eq_some_iff.1 h
    cases h
    have hx := ho x (by simp)
    unfold d0? at h1
    split at h1
    · rename_i d' he
      cases h1
      rw [he] at hx
      exact ⟨⟨rfl, hx⟩, parts_ok h2 w Z β a fun y hy => ho y (by simp [hy])⟩
    · cases h1

theorem frzParts_ok : ∀ {m : List Box} {ps ps' : List (Nat × D0)} {ks : List Nat}, frzParts m ps = some (ps', ks) →
    Flat m ks ∧ ∀ (w : World) (Z Z' : Nat → Prop) (β : Nat → Option Loc) (qs : List (Nat × Value)), Wide w Z Z' → Boxes w Z β m ks → InZ β ks Z' → All2 (fun p q => p.1 = q.1 ∧ V0 w Z β p.2 q.2) ps qs → All2 (fun p q => p.1 = q.1 ∧ V0 w Z' β p.2 q.2) ps' qs
  | m, [], ps', ks, h => by
    simp [frzParts] at h
    obtain ⟨rfl, rfl⟩ := h
    exact ⟨Flat.nil m, fun w Z Z' β ys _ _ _ h => by cases ys with
      | nil => trivial
      | cons _ _ => exact h.elim⟩
  | m, (i, d) :: r, ps', ks, h => by
    simp only [frzParts] at h
    obtain ⟨⟨d', k1⟩, h1, h⟩ := Option.bind_eq_some_iff.1 h
    obtain ⟨⟨l, k2⟩, h2, h⟩ := Option.bind_eq_some_iff.1 h
    cases h
    obtain ⟨f1, v1⟩ := frz0_ok h1
    obtain ⟨f2, v2⟩ := frzParts_ok h2
    refine ⟨f1.append f2, fun w Z Z' β qs hw hb hz ha => ?_⟩
    cases qs with
    | nil => exact ha.elim
    | cons q s =>
      exact ⟨⟨ha.1.1, v1 w Z Z' β _ hw (fun b hb' => hb b (List.mem_append.2 (.inl hb'))) hz.left ha.1.2⟩, v2 w Z Z' β s hw (fun b hb' => hb b (List.mem_append.2 (.inr hb'))) hz.right ha.2⟩

theorem foldl_put (off : Nat) : ∀ (l : List Value) (i : Nat) (cs : Array Value), (l.zipIdx i).foldl (fun cs (cj : Value × Nat) => cs.setIfInBounds (off + cj.2) cj.1) cs = (cs.toList.take (off + i) ++ l ++ cs.toList.drop (off + i + l.length)).toArray ∨ cs.size < off + i + l.length
  | [], i, cs => by left; simp
  | x :: r, i, cs => by
    rcases foldl_put off r (i + 1) (cs.setIfInBounds (off + i) x) with h | h
    · by_cases hlt : off + i < cs.size
      · by_cases hfit : off + i + (r.length + 1) ≤ cs.size
        · left
          simp only [List.zipIdx_cons, List.foldl_cons]
          rw [h]
          congr 1
          apply List.ext_getElem?
          intro j
          have e1 := splice_get (cs.setIfInBounds (off + i) x).toList r (off + (i + 1)) j (by simp; omega)
          have e2 := splice_get cs.toList (x :: r) (off + i) j (by simp; omega)
          rw [e1, e2]
          simp only [Array.toList_setIfInBounds, List.getElem?_set, List.length_cons, Array.length_toList]
          by_cases q1 : off + i = j
          · subst q1
            rw [if_neg (by omega), if_pos rfl, if_pos hlt, if_pos (by omega)]; simp
          · by_cases q2 : off + i + 1 ≤ j ∧ j < off + i + 1 + r.length
            · rw [if_pos (by omega), if_pos (by omega), show j - (off + i) = (j - (off + (i + 1))) + 1 by omega]; simp
            · rw [if_neg (by omega), if_neg q1, if_neg (by omega)]
        · right; simp; omega
      · right; simp; omega
    · right; simp at h ⊢; omega

theorem fillD_ok {w : World} {Z : Nat → Prop} {β : Nat → Option Loc} {place : Nat → Option (Nat × Nat)} : ∀ {ps : List (Nat × D0)} {cells cells' : List D1}, fillD place cells ps = some cells' →
    ∀ {qs : List (Nat × Value)} {cs : Array Value} {cl : Bool}, All2 (fun p q => p.1 = q.1 ∧ V0 w Z β p.2 q.2) ps qs → All2 (VC w Z β cl) cells cs.toList → (cl = true → ps.all (fun p => p.2.closed) = true) →
      ∃ cs', Instr.fill place cs qs = some cs' ∧ cs'.size = cs.size ∧ All2 (VC w Z β cl) cells' cs'.toList
  | [], cells, cells', h, qs, cs, cl, ha, hc, _ => by
    simp [fillD] at h; subst h
    cases qs with
    | nil => exact ⟨cs, rfl, rfl, hc⟩
    | cons _ _ => exact ha.elim
  | (i, d) :: r, cells, cells', h, qs, cs, cl, ha, hc, hcl => by
    cases qs with
    | nil => exact ha.elim
    | cons q s =>
      obtain ⟨⟨hi, hv⟩, hr⟩ := ha
      simp only [fillD] at h
      obtain ⟨⟨off, size⟩, hp, h⟩ := Option.bind_eq_some_iff.1 h
      dsimp only at h
      split at h
      · rename_i hsz
        simp only [Bool.and_eq_true, Nat.beq_eq, Bool.not_eq_true'] at hsz
        obtain ⟨⟨hsz, htop⟩, hpos⟩ := hsz
        have hpos' : size ≠ 0 := fun e => by rw [e] at hpos; cases hpos
        obtain ⟨cs1, h1, h⟩ := Option.bind_eq_some_iff.1 h
        obtain ⟨hl1, hl2, hget⟩ := setCells_spec _ _ _ h1
        have hcv := cells_V0 hv htop
        have hlen := hcv.length
        have hclen := hc.length
        simp only [Array.length_toList] at hlen hclen
        have hcl' : cl = true → d.closed = true ∧ r.all (fun p => p.2.closed) = true := fun e => by simpa using hcl e
        -- the machine's cells
        have hfit' : off + q.2.cells.size ≤ cs.size := by
          rcases hl2 with hl2 | hl2
          · rw [hl2] at hsz; exact absurd hsz.symm hpos'
          · omega
        have hfold := foldl_put off q.2.cells.toList 0 cs
        have hput : (q.2.cells.zipIdx.foldl (fun cs (cj : Value × Nat) => cs.setIfInBounds (off + cj.2) cj.1) cs) = (cs.toList.take off ++ q.2.cells.toList ++ cs.toList.drop (off + q.2.cells.toList.length)).toArray := by
          rcases hfold with hfold | hfold
          · rw [← Array.foldl_toList, Array.toList_zipIdx]
            simpa using hfold
          · simp at hfold; omega
        have hnew : All2 (VC w Z β cl) cs1 (cs.toList.take off ++ q.2.cells.toList ++ cs.toList.drop (off + q.2.cells.toList.length)) := by
          refine All2.of_nth (by simp [hl1]; omega) fun j dj yj hd hy => ?_
          rw [nth_eq, splice_get _ _ _ _ (by simpa using hfit')] at hy
          rw [hget j] at hd
          by_cases hin : off ≤ j ∧ j < off + d.cells.length
          · rw [if_pos hin] at hd
            rw [if_pos (by simp; omega), ← nth_eq] at hy
            obtain ⟨y', hy', hvy⟩ := hcv.nth hd
            rw [hy] at hy'; cases hy'
            exact hvy.weak fun e => (hcl' e).1
          · rw [if_neg hin] at hd
            rw [if_neg (by simp; omega), ← nth_eq] at hy
            obtain ⟨y', hy', hvy⟩ := hc.nth hd
            rw [hy] at hy'; cases hy'
            exact hvy
        obtain ⟨cs', hf, hs', hv'⟩ := fillD_ok h (cs := (cs.toList.take off ++ q.2.cells.toList ++ cs.toList.drop (off + q.2.cells.toList.length)).toArray) (cl := cl) hr (by simpa using hnew) (fun e => (hcl' e).2)
        refine ⟨cs', ?_, ?_, hv'⟩
        · have hq : Instr.fill place cs (q :: s) = if q.2.cells.size ≠ size || off + q.2.cells.size > cs.size then none else Instr.fill place (q.2.cells.zipIdx.foldl (fun cs (cj : Value × Nat) => cs.setIfInBounds (off + cj.2) cj.1) cs) s := by
            simp only [Instr.fill, ← hi, hp]
          rw [hq, hput, if_neg (by simp; omega)]
          exact hf
        · rw [hs']; simp; omega
      · cases h
end Go.Proofs.Ytceaambiagobbaa.Am

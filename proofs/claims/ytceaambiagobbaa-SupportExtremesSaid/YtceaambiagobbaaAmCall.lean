/- A call of the abstract machine: the boxes that it can reach, renamed; what comes back. -/
import Derived.Test.YtceaambiagobbaaAmCut
namespace Go.Proofs.Ytceaambiagobbaa.Am
open Go

/-! ### renaming -/
theorem renL_eq (g : Nat → Option Nat) : ∀ l, renL g l = l.map (ren1 g)
  | [] => rfl
  | d :: r => by simp [renL, renL_eq g r]

/-- what 'g' tells of a box under 'β' is told under 'β'' -/
def Ren (g : Nat → Option Nat) (β β' : Nat → Option Loc) : Prop := ∀ j b l, g j = some b → β j = some l → β' b = some l

theorem V1.ren {w : World} {Z : Nat → Prop} {β β' : Nat → Option Loc} {g : Nat → Option Nat} (hg : Ren g β β') {d : D1} {y : Value} (h : V1 w Z β d y) : V1 w Z β' (ren1 g d) y := by
  induction h with
  | c h =>
    cases h with
    | v x h => simp only [ren1]; exact .c (.v _ h)
    | top y h => simp only [ren1]; exact .c (.top _ h)
    | fr0 z a cap => simp only [ren1]; exact .c (.fr0 z a cap)
    | fr z es k o cap f hz hc h1 h2 h3 => simp only [ren1]; exact .c (.fr z es k o cap f hz hc h1 h2 h3)
    | rp cs k o f hz h2 h3 => simp only [ren1]; exact .c (.rp cs k o f hz h2 h3)
  | ptr b e c l k hl hk =>
    simp only [ren1]
    split
    · rename_i i hi; exact .ptr i e c l k (hg b i l hi hl) hk
    · exact .c (.top _ rfl)
  | fs b l k hl hk =>
    simp only [ren1]
    split
    · rename_i i hi; exact .fs i l k (hg b i l hi hl) hk
    · exact .c (.top _ rfl)
  | fs0 b l hl hk h0 =>
    simp only [ren1]
    split
    · rename_i i hi; exact .fs0 i l (hg b i l hi hl) hk h0
    · exact .c (.top _ rfl)
  | clo f cap ys hlen _ ih =>
    simp only [ren1, renL_eq]
    refine .clo f _ ys (by simpa using hlen) fun i d y hd hy => ?_
    rw [nth_map] at hd
    obtain ⟨d', hd', rfl⟩ := Option.map_eq_some_iff.1 hd
    exact ih i d' y hd' hy
theorem V0.ren {w : World} {Z : Nat → Prop} {β β' : Nat → Option Loc} {g : Nat → Option Nat} (hg : Ren g β β') : ∀ {d : D0} {y : Value}, V0 w Z β d y → V0 w Z β' (ren0 g d) y
  | .one d, y, .inl h => by subst h; exact .inl (by simp [ren1])
  | .one d, y, .inr h => .inr (h.ren hg)
  | .agg true ds, y, ⟨ys, e, h⟩ => ⟨ys, e, h.mono fun _ _ k => ⟨.c (k.2 rfl), k.2⟩⟩
  | .agg false ds, y, ⟨ys, e, h⟩ => by
    refine ⟨ys, e, ?_⟩
    rw [renL_eq]
    exact All2.map_left _ (h.mono fun _ _ k => ⟨k.1.ren hg, fun e => by cases e⟩)
theorem VD.ren {w : World} {Z : Nat → Prop} {β β' : Nat → Option Loc} {g : Nat → Option Nat} (hg : Ren g β β') : ∀ {d : D} {y : Value}, VD w Z β d y → VD w Z β' (renD g d) y
  | .s _, _, h => V0.ren hg h
  | .tup _, _, ⟨ys, e, h⟩ => ⟨ys, e, All2.map_left _ (h.mono fun _ _ k => V0.ren hg k)⟩

theorem BoxOK.ren {w : World} {Z : Nat → Prop} {β β' : Nat → Option Loc} {g : Nat → Option Nat} (hg : Ren g β β') {j b : Nat} (hjb : g j = some b) {x : Box} (h : BoxOK w Z β j x) : BoxOK w Z β' b (renBox g (some x)) := by
  cases x with
  | dead => trivial
  | fz z es => trivial
  | own z fl es =>
    obtain ⟨l, hl, hz, hlen, hin⟩ := h
    have hl' := hg j b l hjb hl
    cases fl with
    | true =>
      refine ⟨l, hl', hz, hlen, ?_⟩
      unfold InBlk at *
      split at hin
      · exact hin
      · obtain ⟨h1, h2, c, t, h3, h4, h5, h6, h7⟩ := hin
        refine ⟨h1, h2, c, t, h3, h4, h5, h6, fun e cs he => ⟨(h7 e cs he).1, fun j d hd => ?_⟩⟩
        obtain ⟨y, hy, hv⟩ := (h7 e cs he).2 j d hd
        exact ⟨y, hy, .c (hv.2 rfl), hv.2⟩
    | false =>
      refine ⟨l, hl', hz, by simpa using hlen, ?_⟩
      unfold InBlk at *
      split at hin
      · subst hin; rfl
      · obtain ⟨h1, h2, c, t, h3, h4, h5, h6, h7⟩ := hin
        refine ⟨h1, h2, c, t, h3, h4, by simpa using h5, h6, fun e cs he => ?_⟩
        rw [nth_map] at he
        obtain ⟨cs', hcs', rfl⟩ := Option.map_eq_some_iff.1 he
        obtain ⟨h8, h9⟩ := h7 e cs' hcs'
        rw [renL_eq]
        refine ⟨by simpa using h8, fun j d hd => ?_⟩
        rw [nth_map] at hd
        obtain ⟨d', hd', rfl⟩ := Option.map_eq_some_iff.1 hd
        obtain ⟨y, hy, hv⟩ := h9 j d' hd'
        exact ⟨y, hy, hv.1.ren hg, fun e => by cases e⟩
theorem live_ren {g : Nat → Option Nat} {x : Option Box} {z : Nat} {fl : Bool} {es : List (List D1)} (h : renBox g x = .own z fl es) : ∃ es', x = some (.own z fl es') := by
  unfold renBox at h
  split at h
  · cases h; exact ⟨_, rfl⟩
  · cases h; exact ⟨_, rfl⟩
  · cases h

/-! ### the boxes that can be reached -/
theorem has_iff {b : Nat} : ∀ {l : List Nat}, has b l = true ↔ b ∈ l
  | [] => by simp [has]
  | x :: r => by simp [has, has_iff (l := r)]
theorem reach_nodup (m : List Box) : ∀ (n : Nat) (todo acc : List Nat), acc.Nodup → (reach m n todo acc).Nodup ∧ ∃ l, reach m n todo acc = acc ++ l
  | 0, _, acc, h => ⟨h, [], by simp [reach]⟩
  | n + 1, [], acc, h => ⟨h, [], by simp [reach]⟩
  | n + 1, b :: todo, acc, h => by
    simp only [reach]
    split
    · exact reach_nodup m n todo acc h
    · rename_i hb
      have hb' : b ∉ acc := fun e => hb (has_iff.2 e)
      obtain ⟨h1, l, h2⟩ := reach_nodup m n (refsBox (nth m b) ++ todo) (acc ++ [b]) (by
        rw [List.nodup_append]
        refine ⟨h, by simp, fun x hx y hy e => ?_⟩
        simp at hy; subst hy; subst e; exact hb' hx)
      exact ⟨h1, b :: l, by rw [h2]; simp⟩
theorem posOf_spec {b : Nat} : ∀ {l : List Nat} {i : Nat}, posOf b l = some i → nth l i = some b
  | [], i, h => by simp [posOf] at h
  | x :: r, i, h => by
    simp only [posOf] at h
    split at h
    · rename_i hb
      rw [Nat.beq_eq] at hb
      cases h; simp [nth, hb]
    · split at h
      · rename_i j hj
        cases h
        simpa [nth] using posOf_spec hj
      · cases h
theorem posOf_some {b : Nat} : ∀ {l : List Nat}, b ∈ l → ∃ i, posOf b l = some i
  | x :: r, h => by
    simp only [posOf]
    split
    · exact ⟨0, rfl⟩
    · rename_i hb
      rcases List.mem_cons.1 h with e | e
      · exact absurd (by rw [Nat.beq_eq]; exact e) hb
      · obtain ⟨i, hi⟩ := posOf_some e
        rw [hi]; exact ⟨i + 1, rfl⟩
theorem nth_nodup {l : List Nat} (h : l.Nodup) {i j b : Nat} (hi : nth l i = some b) (hj : nth l j = some b) : i = j := by
  rw [nth_eq] at hi hj
  have h1 := (List.getElem?_eq_some_iff.1 hi)
  have h2 := (List.getElem?_eq_some_iff.1 hj)
  obtain ⟨a1, b1⟩ := h1
  obtain ⟨a2, b2⟩ := h2
  exact (List.getElem_inj h).1 (b1.trans b2.symm)

/-- the places of a list of boxes, by their number in it -/
def subLoc (β : Nat → Option Loc) (l : List Nat) (i : Nat) : Option Loc := (nth l i).bind β
theorem subLoc_ren (β : Nat → Option Loc) (l : List Nat) : Ren (posOf · l) β (subLoc β l) := by
  intro j b lo hb hl
  simp only [subLoc, posOf_spec hb, Option.bind_some, hl]
theorem subMem_nth {m : List Box} {l : List Nat} {i : Nat} {x : Box} (h : nth (subMem m l) i = some x) : ∃ b, nth l i = some b ∧ x = renBox (posOf · l) (nth m b) := by
  unfold subMem at h
  rw [nth_map] at h
  obtain ⟨b, hb, rfl⟩ := Option.map_eq_some_iff.1 h
  exact ⟨b, hb, rfl⟩
theorem subMem_length (m : List Box) (l : List Nat) : (subMem m l).length = l.length := by simp [subMem]

/-- some boxes, each apart from the others, renamed by their places in a list -/
theorem MR.subMem {w : World} {Z : Nat → Prop} {β : Nat → Option Loc} {m : List Box} {l : List Nat} {F : Nat → Prop} (h : MR w Z β m F) (hl : l.Nodup) (hF : ∀ b ∈ l, F b) : MR w Z (subLoc β l) (Am.subMem m l) (fun _ => True) := by
  constructor
  · intro i x _ hx
    obtain ⟨b, hb, rfl⟩ := subMem_nth hx
    have hbl : b ∈ l := List.mem_of_getElem? (by rw [← nth_eq]; exact hb)
    cases hm : nth m b with
    | none => simp [renBox, BoxOK]
    | some x =>
      obtain ⟨i', hi'⟩ := posOf_some hbl
      have : i' = i := nth_nodup hl (posOf_spec hi') hb
      subst this
      exact (h.box b x (hF b hbl) hm).ren (subLoc_ren β l) hi'
  · intro i j l1 l2 k _ _ hi hj h1 h2 hk1 hk2
    obtain ⟨z1, f1, e1, hi⟩ := hi
    obtain ⟨z2, f2, e2, hj⟩ := hj
    obtain ⟨b1, hb1, hx1⟩ := subMem_nth hi
    obtain ⟨b2, hb2, hx2⟩ := subMem_nth hj
    obtain ⟨es1, hm1⟩ := live_ren hx1.symm
    obtain ⟨es2, hm2⟩ := live_ren hx2.symm
    simp only [subLoc, hb1, Option.bind_some] at h1
    simp only [subLoc, hb2, Option.bind_some] at h2
    have hbl1 : b1 ∈ l := List.mem_of_getElem? (by rw [← nth_eq]; exact hb1)
    have hbl2 : b2 ∈ l := List.mem_of_getElem? (by rw [← nth_eq]; exact hb2)
    have := h.inj b1 b2 l1 l2 k (hF _ hbl1) (hF _ hbl2) ⟨_, _, _, hm1⟩ ⟨_, _, _, hm2⟩ h1 h2 hk1 hk2
    subst this
    exact nth_nodup hl hb1 hb2

/-! ### arguments -/
theorem args_ok {H : Hints} {f : Nat} {m : List Box} : ∀ {i : Nat} {args ds : List D} {ks : List Nat}, argsOf H f m i args = some (ds, ks) →
    Flat m ks ∧ ∀ (w : World) (Z Z' : Nat → Prop) (β : Nat → Option Loc) (vs : List Value), Wide w Z Z' → Boxes w Z β m ks → InZ β ks Z' → All2 (VD w Z β) args vs → All2 (VD w Z' β) ds vs
  | i, [], ds, ks, h => by
    simp [argsOf] at h
    obtain ⟨rfl, rfl⟩ := h
    exact ⟨Flat.nil m, fun w Z Z' β ys _ _ _ h => by cases ys with
      | nil => trivial
      | cons _ _ => exact h.elim⟩
  | i, d :: r, ds, ks, h => by
    simp only [argsOf] at h
    obtain ⟨⟨ds1, ks1⟩, h1, h2⟩ := Option.bind_eq_some_iff.1 h
    obtain ⟨hf, hv⟩ := args_ok h1
    dsimp only at h2
    split at h2
    · cases h2
      refine ⟨hf, fun w Z Z' β ys hw hb hz ha => ?_⟩
      cases ys with
      | nil => exact ha.elim
      | cons y s => exact ⟨ha.1.wide hw, hv w Z Z' β s hw hb hz ha.2⟩
    · split at h2
      · rename_i d0
        obtain ⟨⟨d', ks'⟩, h3, h4⟩ := Option.bind_eq_some_iff.1 h2
        cases h4
        obtain ⟨hf0, hv0⟩ := frz0_ok h3
        refine ⟨hf0.append hf, fun w Z Z' β ys hw hb hz ha => ?_⟩
        cases ys with
        | nil => exact ha.elim
        | cons y s =>
          exact ⟨hv0 w Z Z' β y hw (fun b hb' => hb b (List.mem_append.2 (.inl hb'))) hz.left ha.1, hv w Z Z' β s hw (fun b hb' => hb b (List.mem_append.2 (.inr hb'))) hz.right ha.2⟩
      · cases h2

/-! ### what a function's answer says -/
def impBlk (β : Nat → Option Loc) (m : List Box) (ro : Bool) (k : Nat) : Prop := ro = false ∧ ∃ i l, live m i ∧ β i = some l ∧ l.blk = some k

structure FPost (w : World) (Z : Nat → Prop) (β : Nat → Option Loc) (m : List Box) (ro : Bool) (r : D) (m' : List Box) (v : Value) (w' : World) (Z' : Nat → Prop) (β' : Nat → Option Loc) : Prop where
  val : VD w' Z' β' r v
  ext : Ext w w' (impBlk β m ro)
  keep : ∀ i, i < m.length → β' i = β i
  len : m.length ≤ m'.length
  none' : ∀ b, m'.length ≤ b → β' b = none
  zsub : ∀ k, Z k → Z' k
  znew : ∀ k, Z' k → Z k ∨ (w.heap.size ≤ k ∧ k < w'.heap.size) ∨ impBlk β m ro k
  mem : MR w' Z' β' m' (fun _ => True)
  lives : ∀ i, i < m.length → live m' i → live m i
  blks : ∀ b l k, m.length ≤ b → β' b = some l → l.blk = some k → (w.heap.size ≤ k ∧ k < w'.heap.size) ∨ impBlk β m ro k

/-- the machine's function does as the answer says -/
def FnOK (P : Program) (ro : Bool) (f : Nat) (args : List D) (m : List Box) (r : D) (m' : List Box) : Prop :=
  ∀ (w : World) (Z : Nat → Prop) (β : Nat → Option Loc) (vs : List Value), Zok w Z → All2 (VD w Z β) args vs → MR w Z β m (fun _ => True) → (∀ b, m.length ≤ b → β b = none) →
    Calls P f vs.toArray w fun e w' => ∃ v Z' β', e = .returned v ∧ FPost w Z β m ro r m' v w' Z' β'

theorem zipWr_ids (g : Nat → Option Nat) : ∀ {l : List Nat} {m : List Box}, l.length ≤ m.length → (zipWr g l m).map (·.1) = l
  | [], m, _ => by cases m <;> rfl
  | b :: l, [], h => by simp at h
  | b :: l, x :: m, h => by simp [zipWr, zipWr_ids g (by simpa using h)]
theorem putAll_append : ∀ (a b : List (Nat × Box)) (m : List Box), putAll m (a ++ b) = putAll (putAll m a) b
  | [], b, m => rfl
  | (i, x) :: r, b, m => by simp [putAll, putAll_append r]
theorem nth_putAll_zip (g : Nat → Option Nat) : ∀ {l : List Nat} {m' m : List Box} {i b : Nat} {x : Box}, l.Nodup → l.length ≤ m'.length → nth l i = some b → nth m' i = some x → b < m.length → nth (putAll m (zipWr g l m')) b = some (renBox g (some x))
  | [], m', m, i, b, x, _, _, hb, _, _ => by simp [nth] at hb
  | c :: l, [], m, i, b, x, _, hl, _, _, _ => by simp at hl
  | c :: l, y :: m', m, i, b, x, hn, hl, hb, hx, hlt => by
    simp only [zipWr, putAll]
    rw [List.nodup_cons] at hn
    cases i with
    | zero =>
      simp [nth] at hb hx
      subst hb; subst hx
      rw [nth_putAll_other _ _ _ (by rw [zipWr_ids g (by simpa using hl)]; exact hn.1), nth_upd, if_pos ⟨rfl, hlt⟩]
    | succ i =>
      simp only [nth] at hb hx
      exact nth_putAll_zip g hn.2 (by simpa using hl) hb hx (by rw [upd_length]; exact hlt)
theorem killed_ids (ks : List Nat) : (killed ks).map (·.1) = ks := by simp [killed, List.map_map, Function.comp_def]

theorem noFrL_ok {w w' : World} {Z Z' : Nat → Prop} {β β' : Nat → Option Loc} {cl : Bool} : ∀ {ds : List D1} {ys : List Value}, noFrL ds = true → All2 (VC w Z β cl) ds ys → All2 (VC w' Z' β' cl) ds ys
  | [], [], _, _ => trivial
  | d :: r, y :: s, h, ⟨a, b⟩ => by
    simp only [noFrL, Bool.and_eq_true] at h
    have hc : C1 w' Z' d y := by
      cases d with
      | v x => rw [a.1.v_eq]; exact .v x (by have := a.1.one; rwa [a.1.v_eq] at this)
      | top => exact .top y a.1.one
      | _ => simp [noFr1] at h
    exact ⟨⟨.c hc, fun _ => hc⟩, noFrL_ok h.2 b⟩
  | [], _ :: _, _, k => k.elim
  | _ :: _, [], _, k => k.elim
theorem noFr0_ok {w w' : World} {Z Z' : Nat → Prop} {β β' : Nat → Option Loc} : ∀ {d : D0} {y : Value}, noFrL d.cells = true → V0 w Z β d y → V0 w' Z' β' d y
  | .one d, y, h, .inl e => .inl e
  | .one d, y, h, .inr k => .inr (noFrL_ok (cl := false) (ds := [d]) (ys := [y]) h ⟨⟨k, fun e => by cases e⟩, trivial⟩).1.1
  | .agg cl ds, y, h, ⟨ys, e, k⟩ => ⟨ys, e, noFrL_ok h k⟩
theorem noFr_ok {w w' : World} {Z Z' : Nat → Prop} {β β' : Nat → Option Loc} : ∀ {d : D} {y : Value}, noFr d = true → VD w Z β d y → VD w' Z' β' d y
  | .s d, y, h, k => noFr0_ok h k
  | .tup ds, y, h, ⟨ys, e, k⟩ => by
    refine ⟨ys, e, ?_⟩
    have h' : ∀ d ∈ ds, noFrL d.cells = true := fun d hd => List.all_eq_true.1 h d hd
    exact All2.of_nth k.length fun i d y hd hy => by
      obtain ⟨y', hy', hv⟩ := k.nth hd
      rw [hy] at hy'; cases hy'
      exact noFr0_ok (h' d (List.mem_of_getElem? (by rw [← nth_eq]; exact hd))) hv
end Go.Proofs.Ytceaambiagobbaa.Am
